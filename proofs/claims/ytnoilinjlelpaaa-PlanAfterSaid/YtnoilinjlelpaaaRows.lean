/-
  No cell of these rows narrows 'for every input' (looked for: loops, veiled, ifaces, maps, wideKeys, modest, calm, conditions, laid).
  DERIVED. THE GIVEN ROWS OF THIS SEAT. 8 by the template 'for every input the law returns true; each argument reads behind the call as it read before'; 0 by the template 'total and deterministic' (their statements: YtnoilinjlelpaaaTotals.lean).
  GIVEN WITH THE SEED: the statements are not yours to turn. If you find one false, say at which input.
  Laid BY PROGRAM, IN A SANDBOX (cutbox-rows.mjs): the forced cells as the released guide's own fill.sh prints them over the translation 694f1e1fd438c7c3… (all of the seat's roots in one cut). By AI agents, Wed Nov 11 2026. No macro, syntax, notation, axiom, sorry.
-/
import Derived.Test.YtnoilinjlelpaaaChecked
import GoSem.Claim
import GoSem.ClaimJoined
import GoSem.ClaimMapViews
import Derived.JoinedTies
import Derived.KernelRfl
namespace Go.Proofs.Ytnoilinjlelpaaa
/- THE CELL 'sum', in the pinned program and in every row, IS THE sha256 OF THE DUMP (.gsa) THAT YtnoilinjlelpaaaProg.lean LOADS. Nothing in Lean hashes anything: it is a label: what it is worth is what the hold of that sum in a sandbox is worth. -/
noncomputable def Try.pinned : Pinned := { name := "ytnoilinjlelpaaa", sum := "694f1e1fd438c7c39d740f67b6ab28d96dcede47208dd421b847646f2f9a4114", checked := Try.checked }
namespace Rows
def none {H : Type} : Left H := { results := [], args := [] }

/-- 'salvorlaw18.PlanRuns': WHATEVER THE INPUT: true; the input reads as it did. -/
def planRunsSpec : ChangeSpec := { name := "planRuns", fn := fun _ => fun
  | [] => { results := [.lit (.bool true)], args := [] }
  | _ => none }
def planRunsRow : OpenClaim := { program := "ytnoilinjlelpaaa", sum := "694f1e1fd438c7c39d740f67b6ab28d96dcede47208dd421b847646f2f9a4114", func := "salvor/salvorlaw18.PlanRuns", spec := "planRuns", unfollowed := true, recurses := true, apart := false }
def PlanRunsSaid : Prop := planRunsRow.holds Try.pinned (OpenSpec.ofChange planRunsSpec)

/-- ITS FALSE NEIGHBOUR: 'it returns false'. Refute it at one input. -/
def planRunsWrong : ChangeSpec := { name := "planRuns", fn := fun _ => fun
  | [] => { results := [.lit (.bool false)], args := [] }
  | _ => none }
def PlanRunsWrongFalsely : Prop := planRunsRow.holds Try.pinned (OpenSpec.ofChange planRunsWrong)

/-- 'salvorlaw18.PlanAfter': WHATEVER THE INPUT: true; the input reads as it did. -/
def planAfterSpec : ChangeSpec := { name := "planAfter", fn := fun _ => fun
  | [d1, d2, d3] => { results := [.lit (.bool true)], args := [d1, d2, d3] }
  | _ => none }
def planAfterRow : OpenClaim := { program := "ytnoilinjlelpaaa", sum := "694f1e1fd438c7c39d740f67b6ab28d96dcede47208dd421b847646f2f9a4114", func := "salvor/salvorlaw18.PlanAfter", spec := "planAfter", unfollowed := true, recurses := true, apart := false }
def PlanAfterSaid : Prop := planAfterRow.holds Try.pinned (OpenSpec.ofChange planAfterSpec)

/-- ITS FALSE NEIGHBOUR: 'it returns false'. Refute it at one input. -/
def planAfterWrong : ChangeSpec := { name := "planAfter", fn := fun _ => fun
  | [d1, d2, d3] => { results := [.lit (.bool false)], args := [d1, d2, d3] }
  | _ => none }
def PlanAfterWrongFalsely : Prop := planAfterRow.holds Try.pinned (OpenSpec.ofChange planAfterWrong)

/-- 'salvorlaw18.PlanKeeps': WHATEVER THE INPUT: true; the input reads as it did. -/
def planKeepsSpec : ChangeSpec := { name := "planKeeps", fn := fun _ => fun
  | [d1, d2, d3, d4] => { results := [.lit (.bool true)], args := [d1, d2, d3, d4] }
  | _ => none }
def planKeepsRow : OpenClaim := { program := "ytnoilinjlelpaaa", sum := "694f1e1fd438c7c39d740f67b6ab28d96dcede47208dd421b847646f2f9a4114", func := "salvor/salvorlaw18.PlanKeeps", spec := "planKeeps", unfollowed := true, recurses := true, apart := false }
def PlanKeepsSaid : Prop := planKeepsRow.holds Try.pinned (OpenSpec.ofChange planKeepsSpec)

/-- ITS FALSE NEIGHBOUR: 'it returns false'. Refute it at one input. -/
def planKeepsWrong : ChangeSpec := { name := "planKeeps", fn := fun _ => fun
  | [d1, d2, d3, d4] => { results := [.lit (.bool false)], args := [d1, d2, d3, d4] }
  | _ => none }
def PlanKeepsWrongFalsely : Prop := planKeepsRow.holds Try.pinned (OpenSpec.ofChange planKeepsWrong)

/-- 'salvorlaw18.PlanWays': WHATEVER THE INPUT: true; the input reads as it did. -/
def planWaysSpec : ChangeSpec := { name := "planWays", fn := fun _ => fun
  | [d1, d2, d3] => { results := [.lit (.bool true)], args := [d1, d2, d3] }
  | _ => none }
def planWaysRow : OpenClaim := { program := "ytnoilinjlelpaaa", sum := "694f1e1fd438c7c39d740f67b6ab28d96dcede47208dd421b847646f2f9a4114", func := "salvor/salvorlaw18.PlanWays", spec := "planWays", unfollowed := true, recurses := true, apart := false }
def PlanWaysSaid : Prop := planWaysRow.holds Try.pinned (OpenSpec.ofChange planWaysSpec)

/-- ITS FALSE NEIGHBOUR: 'it returns false'. Refute it at one input. -/
def planWaysWrong : ChangeSpec := { name := "planWays", fn := fun _ => fun
  | [d1, d2, d3] => { results := [.lit (.bool false)], args := [d1, d2, d3] }
  | _ => none }
def PlanWaysWrongFalsely : Prop := planWaysRow.holds Try.pinned (OpenSpec.ofChange planWaysWrong)

/-- 'salvorlaw18.PlanNext': WHATEVER THE INPUT: true; the input reads as it did. -/
def planNextSpec : ChangeSpec := { name := "planNext", fn := fun _ => fun
  | [d1, d2, d3] => { results := [.lit (.bool true)], args := [d1, d2, d3] }
  | _ => none }
def planNextRow : OpenClaim := { program := "ytnoilinjlelpaaa", sum := "694f1e1fd438c7c39d740f67b6ab28d96dcede47208dd421b847646f2f9a4114", func := "salvor/salvorlaw18.PlanNext", spec := "planNext", unfollowed := true, recurses := true, apart := false }
def PlanNextSaid : Prop := planNextRow.holds Try.pinned (OpenSpec.ofChange planNextSpec)

/-- ITS FALSE NEIGHBOUR: 'it returns false'. Refute it at one input. -/
def planNextWrong : ChangeSpec := { name := "planNext", fn := fun _ => fun
  | [d1, d2, d3] => { results := [.lit (.bool false)], args := [d1, d2, d3] }
  | _ => none }
def PlanNextWrongFalsely : Prop := planNextRow.holds Try.pinned (OpenSpec.ofChange planNextWrong)

/-- 'salvorlaw18.PlanReads': WHATEVER THE INPUT: true; the input reads as it did. -/
def planReadsSpec : ChangeSpec := { name := "planReads", fn := fun _ => fun
  | [d1, d2, d3, d4] => { results := [.lit (.bool true)], args := [d1, d2, d3, d4] }
  | _ => none }
def planReadsRow : OpenClaim := { program := "ytnoilinjlelpaaa", sum := "694f1e1fd438c7c39d740f67b6ab28d96dcede47208dd421b847646f2f9a4114", func := "salvor/salvorlaw18.PlanReads", spec := "planReads", unfollowed := true, recurses := true, apart := false }
def PlanReadsSaid : Prop := planReadsRow.holds Try.pinned (OpenSpec.ofChange planReadsSpec)

/-- ITS FALSE NEIGHBOUR: 'it returns false'. Refute it at one input. -/
def planReadsWrong : ChangeSpec := { name := "planReads", fn := fun _ => fun
  | [d1, d2, d3, d4] => { results := [.lit (.bool false)], args := [d1, d2, d3, d4] }
  | _ => none }
def PlanReadsWrongFalsely : Prop := planReadsRow.holds Try.pinned (OpenSpec.ofChange planReadsWrong)

/-- 'salvorlaw18.PlanOrder': WHATEVER THE INPUT: true; the input reads as it did. -/
def planOrderSpec : ChangeSpec := { name := "planOrder", fn := fun _ => fun
  | [d1, d2] => { results := [.lit (.bool true)], args := [d1, d2] }
  | _ => none }
def planOrderRow : OpenClaim := { program := "ytnoilinjlelpaaa", sum := "694f1e1fd438c7c39d740f67b6ab28d96dcede47208dd421b847646f2f9a4114", func := "salvor/salvorlaw18.PlanOrder", spec := "planOrder", unfollowed := true, recurses := true, apart := false }
def PlanOrderSaid : Prop := planOrderRow.holds Try.pinned (OpenSpec.ofChange planOrderSpec)

/-- ITS FALSE NEIGHBOUR: 'it returns false'. Refute it at one input. -/
def planOrderWrong : ChangeSpec := { name := "planOrder", fn := fun _ => fun
  | [d1, d2] => { results := [.lit (.bool false)], args := [d1, d2] }
  | _ => none }
def PlanOrderWrongFalsely : Prop := planOrderRow.holds Try.pinned (OpenSpec.ofChange planOrderWrong)

/-- 'salvorlaw18.PlanRetries': WHATEVER THE INPUT: true; the input reads as it did. -/
def planRetriesSpec : ChangeSpec := { name := "planRetries", fn := fun _ => fun
  | [d1, d2, d3] => { results := [.lit (.bool true)], args := [d1, d2, d3] }
  | _ => none }
def planRetriesRow : OpenClaim := { program := "ytnoilinjlelpaaa", sum := "694f1e1fd438c7c39d740f67b6ab28d96dcede47208dd421b847646f2f9a4114", func := "salvor/salvorlaw18.PlanRetries", spec := "planRetries", unfollowed := true, recurses := true, apart := false }
def PlanRetriesSaid : Prop := planRetriesRow.holds Try.pinned (OpenSpec.ofChange planRetriesSpec)

/-- ITS FALSE NEIGHBOUR: 'it returns false'. Refute it at one input. -/
def planRetriesWrong : ChangeSpec := { name := "planRetries", fn := fun _ => fun
  | [d1, d2, d3] => { results := [.lit (.bool false)], args := [d1, d2, d3] }
  | _ => none }
def PlanRetriesWrongFalsely : Prop := planRetriesRow.holds Try.pinned (OpenSpec.ofChange planRetriesWrong)

/- THE SECOND FORM. 'bulk': how many values and letters a reading holds, each counted each time it is reached (what is shared counts as often as it is met; a slice's spare places count too). A statement '..UptoSaid' is the law's where the arguments, and the package variables that the reading takes, are together of bulk at most 1048576: NARROWER than '..Said'. Prove '..Said' where nothing that the law and all that it calls make is longer than what came in: it says more and counts as full. Else prove '..UptoSaid'. A law counts once. -/
mutual
def uptoBulk {H : Type} : DataW H → Nat
  | .lit (.string bytes) => bytes.length + 1
  | .lit _ => 1
  | .nil => 1
  | .ptr d => uptoBulk d + 1
  | .slice elems spare => uptoBulkAll elems + uptoBulkAll spare + 1
  | .agg parts => uptoBulkAll parts + 1
  | .iface _ d => uptoBulk d + 1
  | .map entries => uptoBulkEntries entries + 1
  | .held _ => 1
def uptoBulkAll {H : Type} : List (DataW H) → Nat
  | [] => 0
  | d :: r => uptoBulk d + uptoBulkAll r
def uptoBulkEntries {H : Type} : List (Lit × DataW H) → Nat
  | [] => 0
  | x :: r => uptoBulkEntry x + uptoBulkEntries r
def uptoBulkEntry {H : Type} : Lit × DataW H → Nat
  | (.string bytes, d) => bytes.length + uptoBulk d + 1
  | (_, d) => uptoBulk d + 1
 end
def uptoSmall : (H : Type) → List (DataW H) → Bool := fun _ ds => decide (uptoBulkAll ds ≤ 1048576)
def OpenSpec.upto (s : _root_.Go.ChangeSpec) : _root_.Go.OpenSpec := { _root_.Go.OpenSpec.ofChange s with cond := some uptoSmall }

/-- 'salvorlaw18.PlanRuns', WHERE WHAT IT READS IS OF BULK AT MOST 1048576: true; the input reads as it did. -/
def planRunsUptoRow : OpenClaim := { program := "ytnoilinjlelpaaa", sum := "694f1e1fd438c7c39d740f67b6ab28d96dcede47208dd421b847646f2f9a4114", func := "salvor/salvorlaw18.PlanRuns", spec := "planRuns", unfollowed := true, recurses := true, apart := false, narrowed := true }
def PlanRunsUptoSaid : Prop := planRunsUptoRow.holds Try.pinned (OpenSpec.upto planRunsSpec)

/-- 'salvorlaw18.PlanAfter', WHERE WHAT IT READS IS OF BULK AT MOST 1048576: true; the input reads as it did. -/
def planAfterUptoRow : OpenClaim := { program := "ytnoilinjlelpaaa", sum := "694f1e1fd438c7c39d740f67b6ab28d96dcede47208dd421b847646f2f9a4114", func := "salvor/salvorlaw18.PlanAfter", spec := "planAfter", unfollowed := true, recurses := true, apart := false, narrowed := true }
def PlanAfterUptoSaid : Prop := planAfterUptoRow.holds Try.pinned (OpenSpec.upto planAfterSpec)

/-- 'salvorlaw18.PlanKeeps', WHERE WHAT IT READS IS OF BULK AT MOST 1048576: true; the input reads as it did. -/
def planKeepsUptoRow : OpenClaim := { program := "ytnoilinjlelpaaa", sum := "694f1e1fd438c7c39d740f67b6ab28d96dcede47208dd421b847646f2f9a4114", func := "salvor/salvorlaw18.PlanKeeps", spec := "planKeeps", unfollowed := true, recurses := true, apart := false, narrowed := true }
def PlanKeepsUptoSaid : Prop := planKeepsUptoRow.holds Try.pinned (OpenSpec.upto planKeepsSpec)

/-- 'salvorlaw18.PlanWays', WHERE WHAT IT READS IS OF BULK AT MOST 1048576: true; the input reads as it did. -/
def planWaysUptoRow : OpenClaim := { program := "ytnoilinjlelpaaa", sum := "694f1e1fd438c7c39d740f67b6ab28d96dcede47208dd421b847646f2f9a4114", func := "salvor/salvorlaw18.PlanWays", spec := "planWays", unfollowed := true, recurses := true, apart := false, narrowed := true }
def PlanWaysUptoSaid : Prop := planWaysUptoRow.holds Try.pinned (OpenSpec.upto planWaysSpec)

/-- 'salvorlaw18.PlanNext', WHERE WHAT IT READS IS OF BULK AT MOST 1048576: true; the input reads as it did. -/
def planNextUptoRow : OpenClaim := { program := "ytnoilinjlelpaaa", sum := "694f1e1fd438c7c39d740f67b6ab28d96dcede47208dd421b847646f2f9a4114", func := "salvor/salvorlaw18.PlanNext", spec := "planNext", unfollowed := true, recurses := true, apart := false, narrowed := true }
def PlanNextUptoSaid : Prop := planNextUptoRow.holds Try.pinned (OpenSpec.upto planNextSpec)

/-- 'salvorlaw18.PlanReads', WHERE WHAT IT READS IS OF BULK AT MOST 1048576: true; the input reads as it did. -/
def planReadsUptoRow : OpenClaim := { program := "ytnoilinjlelpaaa", sum := "694f1e1fd438c7c39d740f67b6ab28d96dcede47208dd421b847646f2f9a4114", func := "salvor/salvorlaw18.PlanReads", spec := "planReads", unfollowed := true, recurses := true, apart := false, narrowed := true }
def PlanReadsUptoSaid : Prop := planReadsUptoRow.holds Try.pinned (OpenSpec.upto planReadsSpec)

/-- 'salvorlaw18.PlanOrder', WHERE WHAT IT READS IS OF BULK AT MOST 1048576: true; the input reads as it did. -/
def planOrderUptoRow : OpenClaim := { program := "ytnoilinjlelpaaa", sum := "694f1e1fd438c7c39d740f67b6ab28d96dcede47208dd421b847646f2f9a4114", func := "salvor/salvorlaw18.PlanOrder", spec := "planOrder", unfollowed := true, recurses := true, apart := false, narrowed := true }
def PlanOrderUptoSaid : Prop := planOrderUptoRow.holds Try.pinned (OpenSpec.upto planOrderSpec)

/-- 'salvorlaw18.PlanRetries', WHERE WHAT IT READS IS OF BULK AT MOST 1048576: true; the input reads as it did. -/
def planRetriesUptoRow : OpenClaim := { program := "ytnoilinjlelpaaa", sum := "694f1e1fd438c7c39d740f67b6ab28d96dcede47208dd421b847646f2f9a4114", func := "salvor/salvorlaw18.PlanRetries", spec := "planRetries", unfollowed := true, recurses := true, apart := false, narrowed := true }
def PlanRetriesUptoSaid : Prop := planRetriesUptoRow.holds Try.pinned (OpenSpec.upto planRetriesSpec)

end Rows
end Go.Proofs.Ytnoilinjlelpaaa
