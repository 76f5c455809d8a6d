/-
  No cell of these rows narrows 'for every input' (looked for: loops, veiled, ifaces, maps, wideKeys, modest, calm, conditions, laid).
  DERIVED. THE GIVEN ROWS OF THIS SEAT. 7 by the template 'for every input the law returns true; each argument reads behind the call as it read before'; 0 by the template 'total and deterministic' (their statements: YtjgkfnbfjamccaaTotals.lean).
  GIVEN WITH THE SEED: the statements are not yours to turn. If you find one false, say at which input.
  Laid BY PROGRAM, IN A SANDBOX (cutbox-rows.mjs): the forced cells as the released guide's own fill.sh prints them over the translation 231bd9204635e093… (all of the seat's roots in one cut). By AI agents, Wed Nov 11 2026. No macro, syntax, notation, axiom, sorry.
-/
import Derived.Test.YtjgkfnbfjamccaaChecked
import GoSem.Claim
import GoSem.ClaimJoined
import GoSem.ClaimMapViews
import Derived.JoinedTies
import Derived.KernelRfl
namespace Go.Proofs.Ytjgkfnbfjamccaa
/- THE CELL 'sum', in the pinned program and in every row, IS THE sha256 OF THE DUMP (.gsa) THAT YtjgkfnbfjamccaaProg.lean LOADS. Nothing in Lean hashes anything: it is a label: what it is worth is what the hold of that sum in a sandbox is worth. -/
noncomputable def Try.pinned : Pinned := { name := "ytjgkfnbfjamccaa", sum := "231bd9204635e09394425522b723af0bf01bed39c3eb209037ce2057093ebf67", checked := Try.checked }
namespace Rows
def none {H : Type} : Left H := { results := [], args := [] }

/-- 'salvorlaw16.RegionRuns': WHATEVER THE INPUT: true; the input reads as it did. -/
def regionRunsSpec : ChangeSpec := { name := "regionRuns", fn := fun _ => fun
  | [] => { results := [.lit (.bool true)], args := [] }
  | _ => none }
def regionRunsRow : OpenClaim := { program := "ytjgkfnbfjamccaa", sum := "231bd9204635e09394425522b723af0bf01bed39c3eb209037ce2057093ebf67", func := "salvor/salvorlaw16.RegionRuns", spec := "regionRuns", unfollowed := true, recurses := true, apart := false }
def RegionRunsSaid : Prop := regionRunsRow.holds Try.pinned (OpenSpec.ofChange regionRunsSpec)

/-- ITS FALSE NEIGHBOUR: 'it returns false'. Refute it at one input. -/
def regionRunsWrong : ChangeSpec := { name := "regionRuns", fn := fun _ => fun
  | [] => { results := [.lit (.bool false)], args := [] }
  | _ => none }
def RegionRunsWrongFalsely : Prop := regionRunsRow.holds Try.pinned (OpenSpec.ofChange regionRunsWrong)

/-- 'salvorlaw16.RegionSets': WHATEVER THE INPUT: true; the input reads as it did. -/
def regionSetsSpec : ChangeSpec := { name := "regionSets", fn := fun _ => fun
  | [d1, d2, d3, d4, d5] => { results := [.lit (.bool true)], args := [d1, d2, d3, d4, d5] }
  | _ => none }
def regionSetsRow : OpenClaim := { program := "ytjgkfnbfjamccaa", sum := "231bd9204635e09394425522b723af0bf01bed39c3eb209037ce2057093ebf67", func := "salvor/salvorlaw16.RegionSets", spec := "regionSets", unfollowed := true, recurses := true, apart := false }
def RegionSetsSaid : Prop := regionSetsRow.holds Try.pinned (OpenSpec.ofChange regionSetsSpec)

/-- ITS FALSE NEIGHBOUR: 'it returns false'. Refute it at one input. -/
def regionSetsWrong : ChangeSpec := { name := "regionSets", fn := fun _ => fun
  | [d1, d2, d3, d4, d5] => { results := [.lit (.bool false)], args := [d1, d2, d3, d4, d5] }
  | _ => none }
def RegionSetsWrongFalsely : Prop := regionSetsRow.holds Try.pinned (OpenSpec.ofChange regionSetsWrong)

/-- 'salvorlaw16.RegionSides': WHATEVER THE INPUT: true; the input reads as it did. -/
def regionSidesSpec : ChangeSpec := { name := "regionSides", fn := fun _ => fun
  | [d1, d2, d3] => { results := [.lit (.bool true)], args := [d1, d2, d3] }
  | _ => none }
def regionSidesRow : OpenClaim := { program := "ytjgkfnbfjamccaa", sum := "231bd9204635e09394425522b723af0bf01bed39c3eb209037ce2057093ebf67", func := "salvor/salvorlaw16.RegionSides", spec := "regionSides", unfollowed := true, recurses := true, apart := false }
def RegionSidesSaid : Prop := regionSidesRow.holds Try.pinned (OpenSpec.ofChange regionSidesSpec)

/-- ITS FALSE NEIGHBOUR: 'it returns false'. Refute it at one input. -/
def regionSidesWrong : ChangeSpec := { name := "regionSides", fn := fun _ => fun
  | [d1, d2, d3] => { results := [.lit (.bool false)], args := [d1, d2, d3] }
  | _ => none }
def RegionSidesWrongFalsely : Prop := regionSidesRow.holds Try.pinned (OpenSpec.ofChange regionSidesWrong)

/-- 'salvorlaw16.RegionTwice': WHATEVER THE INPUT: true; the input reads as it did. -/
def regionTwiceSpec : ChangeSpec := { name := "regionTwice", fn := fun _ => fun
  | [d1, d2, d3, d4] => { results := [.lit (.bool true)], args := [d1, d2, d3, d4] }
  | _ => none }
def regionTwiceRow : OpenClaim := { program := "ytjgkfnbfjamccaa", sum := "231bd9204635e09394425522b723af0bf01bed39c3eb209037ce2057093ebf67", func := "salvor/salvorlaw16.RegionTwice", spec := "regionTwice", unfollowed := true, recurses := true, apart := false }
def RegionTwiceSaid : Prop := regionTwiceRow.holds Try.pinned (OpenSpec.ofChange regionTwiceSpec)

/-- ITS FALSE NEIGHBOUR: 'it returns false'. Refute it at one input. -/
def regionTwiceWrong : ChangeSpec := { name := "regionTwice", fn := fun _ => fun
  | [d1, d2, d3, d4] => { results := [.lit (.bool false)], args := [d1, d2, d3, d4] }
  | _ => none }
def RegionTwiceWrongFalsely : Prop := regionTwiceRow.holds Try.pinned (OpenSpec.ofChange regionTwiceWrong)

/-- 'salvorlaw16.RegionMay': WHATEVER THE INPUT: true; the input reads as it did. -/
def regionMaySpec : ChangeSpec := { name := "regionMay", fn := fun _ => fun
  | [d1, d2, d3] => { results := [.lit (.bool true)], args := [d1, d2, d3] }
  | _ => none }
def regionMayRow : OpenClaim := { program := "ytjgkfnbfjamccaa", sum := "231bd9204635e09394425522b723af0bf01bed39c3eb209037ce2057093ebf67", func := "salvor/salvorlaw16.RegionMay", spec := "regionMay", unfollowed := true, recurses := true, apart := false }
def RegionMaySaid : Prop := regionMayRow.holds Try.pinned (OpenSpec.ofChange regionMaySpec)

/-- ITS FALSE NEIGHBOUR: 'it returns false'. Refute it at one input. -/
def regionMayWrong : ChangeSpec := { name := "regionMay", fn := fun _ => fun
  | [d1, d2, d3] => { results := [.lit (.bool false)], args := [d1, d2, d3] }
  | _ => none }
def RegionMayWrongFalsely : Prop := regionMayRow.holds Try.pinned (OpenSpec.ofChange regionMayWrong)

/-- 'salvorlaw16.RegionPlaces': WHATEVER THE INPUT: true; the input reads as it did. -/
def regionPlacesSpec : ChangeSpec := { name := "regionPlaces", fn := fun _ => fun
  | [d1, d2] => { results := [.lit (.bool true)], args := [d1, d2] }
  | _ => none }
def regionPlacesRow : OpenClaim := { program := "ytjgkfnbfjamccaa", sum := "231bd9204635e09394425522b723af0bf01bed39c3eb209037ce2057093ebf67", func := "salvor/salvorlaw16.RegionPlaces", spec := "regionPlaces", unfollowed := true, recurses := true, apart := false }
def RegionPlacesSaid : Prop := regionPlacesRow.holds Try.pinned (OpenSpec.ofChange regionPlacesSpec)

/-- ITS FALSE NEIGHBOUR: 'it returns false'. Refute it at one input. -/
def regionPlacesWrong : ChangeSpec := { name := "regionPlaces", fn := fun _ => fun
  | [d1, d2] => { results := [.lit (.bool false)], args := [d1, d2] }
  | _ => none }
def RegionPlacesWrongFalsely : Prop := regionPlacesRow.holds Try.pinned (OpenSpec.ofChange regionPlacesWrong)

/-- 'salvorlaw16.RegionEnds': WHATEVER THE INPUT: true; the input reads as it did. -/
def regionEndsSpec : ChangeSpec := { name := "regionEnds", fn := fun _ => fun
  | [d1, d2, d3, d4] => { results := [.lit (.bool true)], args := [d1, d2, d3, d4] }
  | _ => none }
def regionEndsRow : OpenClaim := { program := "ytjgkfnbfjamccaa", sum := "231bd9204635e09394425522b723af0bf01bed39c3eb209037ce2057093ebf67", func := "salvor/salvorlaw16.RegionEnds", spec := "regionEnds", unfollowed := true, recurses := true, apart := false }
def RegionEndsSaid : Prop := regionEndsRow.holds Try.pinned (OpenSpec.ofChange regionEndsSpec)

/-- ITS FALSE NEIGHBOUR: 'it returns false'. Refute it at one input. -/
def regionEndsWrong : ChangeSpec := { name := "regionEnds", fn := fun _ => fun
  | [d1, d2, d3, d4] => { results := [.lit (.bool false)], args := [d1, d2, d3, d4] }
  | _ => none }
def RegionEndsWrongFalsely : Prop := regionEndsRow.holds Try.pinned (OpenSpec.ofChange regionEndsWrong)

/- THE SECOND FORM. 'bulk': how many values and letters a reading holds, each counted each time it is reached (what is shared counts as often as it is met; a slice's spare places count too). A statement '..UptoSaid' is the law's where the arguments, and the package variables that the reading takes, are together of bulk at most 1048576: NARROWER than '..Said'. Prove '..Said' where nothing that the law and all that it calls make is longer than what came in: it says more and counts as full. Else prove '..UptoSaid'. A law counts once. -/
mutual
def uptoBulk {H : Type} : DataW H → Nat
  | .lit (.string bytes) => bytes.length + 1
  | .lit _ => 1
  | .nil => 1
  | .ptr d => uptoBulk d + 1
  | .slice elems spare => uptoBulkAll elems + uptoBulkAll spare + 1
  | .agg parts => uptoBulkAll parts + 1
  | .iface _ d => uptoBulk d + 1
  | .map entries => uptoBulkEntries entries + 1
  | .held _ => 1
def uptoBulkAll {H : Type} : List (DataW H) → Nat
  | [] => 0
  | d :: r => uptoBulk d + uptoBulkAll r
def uptoBulkEntries {H : Type} : List (Lit × DataW H) → Nat
  | [] => 0
  | x :: r => uptoBulkEntry x + uptoBulkEntries r
def uptoBulkEntry {H : Type} : Lit × DataW H → Nat
  | (.string bytes, d) => bytes.length + uptoBulk d + 1
  | (_, d) => uptoBulk d + 1
 end
def uptoSmall : (H : Type) → List (DataW H) → Bool := fun _ ds => decide (uptoBulkAll ds ≤ 1048576)
def OpenSpec.upto (s : _root_.Go.ChangeSpec) : _root_.Go.OpenSpec := { _root_.Go.OpenSpec.ofChange s with cond := some uptoSmall }

/-- 'salvorlaw16.RegionRuns', WHERE WHAT IT READS IS OF BULK AT MOST 1048576: true; the input reads as it did. -/
def regionRunsUptoRow : OpenClaim := { program := "ytjgkfnbfjamccaa", sum := "231bd9204635e09394425522b723af0bf01bed39c3eb209037ce2057093ebf67", func := "salvor/salvorlaw16.RegionRuns", spec := "regionRuns", unfollowed := true, recurses := true, apart := false, narrowed := true }
def RegionRunsUptoSaid : Prop := regionRunsUptoRow.holds Try.pinned (OpenSpec.upto regionRunsSpec)

/-- 'salvorlaw16.RegionSets', WHERE WHAT IT READS IS OF BULK AT MOST 1048576: true; the input reads as it did. -/
def regionSetsUptoRow : OpenClaim := { program := "ytjgkfnbfjamccaa", sum := "231bd9204635e09394425522b723af0bf01bed39c3eb209037ce2057093ebf67", func := "salvor/salvorlaw16.RegionSets", spec := "regionSets", unfollowed := true, recurses := true, apart := false, narrowed := true }
def RegionSetsUptoSaid : Prop := regionSetsUptoRow.holds Try.pinned (OpenSpec.upto regionSetsSpec)

/-- 'salvorlaw16.RegionSides', WHERE WHAT IT READS IS OF BULK AT MOST 1048576: true; the input reads as it did. -/
def regionSidesUptoRow : OpenClaim := { program := "ytjgkfnbfjamccaa", sum := "231bd9204635e09394425522b723af0bf01bed39c3eb209037ce2057093ebf67", func := "salvor/salvorlaw16.RegionSides", spec := "regionSides", unfollowed := true, recurses := true, apart := false, narrowed := true }
def RegionSidesUptoSaid : Prop := regionSidesUptoRow.holds Try.pinned (OpenSpec.upto regionSidesSpec)

/-- 'salvorlaw16.RegionTwice', WHERE WHAT IT READS IS OF BULK AT MOST 1048576: true; the input reads as it did. -/
def regionTwiceUptoRow : OpenClaim := { program := "ytjgkfnbfjamccaa", sum := "231bd9204635e09394425522b723af0bf01bed39c3eb209037ce2057093ebf67", func := "salvor/salvorlaw16.RegionTwice", spec := "regionTwice", unfollowed := true, recurses := true, apart := false, narrowed := true }
def RegionTwiceUptoSaid : Prop := regionTwiceUptoRow.holds Try.pinned (OpenSpec.upto regionTwiceSpec)

/-- 'salvorlaw16.RegionMay', WHERE WHAT IT READS IS OF BULK AT MOST 1048576: true; the input reads as it did. -/
def regionMayUptoRow : OpenClaim := { program := "ytjgkfnbfjamccaa", sum := "231bd9204635e09394425522b723af0bf01bed39c3eb209037ce2057093ebf67", func := "salvor/salvorlaw16.RegionMay", spec := "regionMay", unfollowed := true, recurses := true, apart := false, narrowed := true }
def RegionMayUptoSaid : Prop := regionMayUptoRow.holds Try.pinned (OpenSpec.upto regionMaySpec)

/-- 'salvorlaw16.RegionPlaces', WHERE WHAT IT READS IS OF BULK AT MOST 1048576: true; the input reads as it did. -/
def regionPlacesUptoRow : OpenClaim := { program := "ytjgkfnbfjamccaa", sum := "231bd9204635e09394425522b723af0bf01bed39c3eb209037ce2057093ebf67", func := "salvor/salvorlaw16.RegionPlaces", spec := "regionPlaces", unfollowed := true, recurses := true, apart := false, narrowed := true }
def RegionPlacesUptoSaid : Prop := regionPlacesUptoRow.holds Try.pinned (OpenSpec.upto regionPlacesSpec)

/-- 'salvorlaw16.RegionEnds', WHERE WHAT IT READS IS OF BULK AT MOST 1048576: true; the input reads as it did. -/
def regionEndsUptoRow : OpenClaim := { program := "ytjgkfnbfjamccaa", sum := "231bd9204635e09394425522b723af0bf01bed39c3eb209037ce2057093ebf67", func := "salvor/salvorlaw16.RegionEnds", spec := "regionEnds", unfollowed := true, recurses := true, apart := false, narrowed := true }
def RegionEndsUptoSaid : Prop := regionEndsUptoRow.holds Try.pinned (OpenSpec.upto regionEndsSpec)

end Rows
end Go.Proofs.Ytjgkfnbfjamccaa
