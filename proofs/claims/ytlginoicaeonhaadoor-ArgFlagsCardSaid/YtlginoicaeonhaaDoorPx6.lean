/- Laid by a program of this session's own (wip/wprint.py, over the kit's print.py): functions of the given program as plain Lean functions, and that the program's calls come to their answers. -/
import Derived.Test.YtlginoicaeonhaaDoorPx0
import Derived.Test.YtlginoicaeonhaaDoorFlG
namespace Go.Proofs.YtlginoicaeonhaaDoor.P
open Go.RowKit Go.Proofs.YtlginoicaeonhaaDoorW.PrintWords Go.Proofs.YtlginoicaeonhaaDoorW.PrintLast Go.Proofs.YtlginoicaeonhaaDoorW.PrintMore
attribute [local go_sem] max2_int min2_int max_two min_two max_three min_three max_four min_four   -- for this text's walks alone
set_option linter.unusedVariables false
set_option linter.unusedSimpArgs false

/-! ### arg_Flags: function 10 -/
def arg_Flags.f (a0 : ByteArray) (l1 : List ByteArray) : Option ((List (S31)) × List ByteArray × Bool) := flagsF a0 l1
set_option maxHeartbeats 8000000 in
set_option maxRecDepth 100000 in
theorem arg_Flags.calls (a0 : ByteArray) (A1 : Option Addr) (c1 : Nat) (l1 : List ByteArray) (r1 : List (S31)) (r2 : List ByteArray) (r3 : Bool) (w : World) (hr1 : Kd.C Kd.string w A1 l1.length l1) (hc1 : l1.length ≤ c1) (h : arg_Flags.f a0 l1 = some (r1, r2, r3)) (htab : TabAt w) :
    Calls Tryd.prog 10 #[.string a0, .slice A1 l1.length c1] w fun e w' => ∃ v0_ v1_ : Value, e = .returned (.tuple #[.agg #[v0_, v1_], .bool r3]) ∧ Kd.R k31 31 w' w.heap.size (fun _ => True) v0_ r1 ∧ Kd.R Kd.string 9 w' w.heap.size (fun _ => True) v1_ r2 ∧ Below w.heap.size w w' := by
  exact flags_walk a0 A1 c1 l1 r1 r2 r3 w hr1 hc1 h htab

end Go.Proofs.YtlginoicaeonhaaDoor.P
