/- A table of the library's, as strconv.Itoa reads it; that it stands behind calls that leave what was there. No conditions. -/
import Derived.Test.YtabmegbapfajoaaDoorShort
import Derived.Test.YtabmegbapfajoaaDoorShelf
import Derived.Lib.AppendIntMem
namespace Go.Proofs.YtabmegbapfajoaaDoor.P
open Go.RowKit Go.Proofs.YtabmegbapfajoaaDoorW.PrintWords Go.Proofs.YtabmegbapfajoaaDoorW.PrintLast
def TabAt (w : World) : Prop := Lib.TabIs Tryd.prog w "internal/strconv.uint64pow10" .u64 Lib.pow10Tab
theorem TabAt.below {w W : World} (h : TabAt w) (hb : Below w.heap.size w W) : TabAt W := (Lib.tabBelow_of_tabIs h) W hb
theorem tb_ {w w0 W : World} (t : Aside0 (TabAt w)) (h : Aside0 (Below w.heap.size w w0)) (e : Below w.heap.size w w0 → Below w.heap.size w W := by intro h_; repeat (first | (with_reducible first | exact h_ | apply below_alloc | apply pw_below_drewN | apply below_drew1 | refine below_set ?_ (Aside0.out (by assumption))) | exact h_)) : TabAt W := t.out.below (e h.out)
end Go.Proofs.YtabmegbapfajoaaDoor.P
