/- A variable of the library's, as strings.Cut and strings.Split read it; that it stands behind calls that leave what was there. No conditions. -/
import Derived.Test.YtlginoicaeonhaaDoorShort
import Derived.Test.YtlginoicaeonhaaDoorShelf
namespace Go.Proofs.YtlginoicaeonhaaDoor.P
open Go.RowKit Go.Proofs.YtlginoicaeonhaaDoorW.PrintWords Go.Proofs.YtlginoicaeonhaaDoorW.PrintLast
def TabAt (w : World) : Prop := ∃ m, w.cell? ⟨0, 0, none⟩ = some (.int .i64 m)
theorem TabAt.below {w W : World} (h : TabAt w) (hb : Below w.heap.size w W) : TabAt W := by
  obtain ⟨m, hm⟩ := h
  exact ⟨m, (hb.cell (p := ⟨0, 0, none⟩) (World.block_lt_of_cell? w _ hm)).trans hm⟩
theorem tb_ {w w0 W : World} (t : Aside0 (TabAt w)) (h : Aside0 (Below w.heap.size w w0)) (e : Below w.heap.size w w0 → Below w.heap.size w W := by intro h_; repeat (first | (with_reducible first | exact h_ | apply below_alloc | apply pw_below_drewN | apply below_drew1 | refine below_set ?_ (Aside0.out (by assumption))) | exact h_)) : TabAt W := t.out.below (e h.out)
end Go.Proofs.YtlginoicaeonhaaDoor.P
