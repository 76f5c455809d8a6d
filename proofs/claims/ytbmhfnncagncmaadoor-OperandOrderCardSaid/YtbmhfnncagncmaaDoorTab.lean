/- Variables of the library's, as its own functions read them; that they stand behind calls that leave what was there. No conditions. -/
import Derived.Test.YtbmhfnncagncmaaDoorShort
import Derived.Test.YtbmhfnncagncmaaDoorShelf
import Derived.Lib.AppendIntMem
import Derived.Lib.TrailingZeros
namespace Go.Proofs.YtbmhfnncagncmaaDoor.P
open Go.RowKit Go.Proofs.YtbmhfnncagncmaaDoorW.PrintWords Go.Proofs.YtbmhfnncagncmaaDoorW.PrintLast
structure TabAt (w : World) : Prop where
  pow : Lib.TabIs Tryd.prog w "internal/strconv.uint64pow10" .u64 Lib.pow10Tab
  max : ∃ m, w.cell? ⟨0, 0, none⟩ = some (.int .i64 m)
  syn : ∃ t p, w.cell? ⟨3, 0, none⟩ = some (.iface t p)
  rng : ∃ t p, w.cell? ⟨4, 0, none⟩ = some (.iface t p)
  bru : w.cell? ⟨7, 15, none⟩ = some (.int .u8 4)
theorem cell_kept {w W : World} {a : Addr} {v : Value} (hb : Below w.heap.size w W) (h : w.cell? a = some v) : W.cell? a = some v := (hb.cell (World.block_lt_of_cell? w a h)).trans h
theorem TabAt.below {w W : World} (h : TabAt w) (hb : Below w.heap.size w W) : TabAt W := by
  obtain ⟨h1, ⟨m, h2⟩, ⟨t, p, h3⟩, ⟨u, q, h4⟩, h5⟩ := h
  exact ⟨(Lib.tabBelow_of_tabIs h1) W hb, ⟨m, cell_kept hb h2⟩, ⟨t, p, cell_kept hb h3⟩, ⟨u, q, cell_kept hb h4⟩, cell_kept hb h5⟩
theorem tb_ {w w0 W : World} (t : Aside0 (TabAt w)) (h : Aside0 (Below w.heap.size w w0)) (e : Below w.heap.size w w0 → Below w.heap.size w W := by intro h_; repeat (first | (with_reducible first | exact h_ | apply below_alloc | apply pw_below_drewN | apply below_drew1 | refine below_set ?_ (Aside0.out (by assumption))) | exact h_)) : TabAt W := t.out.below (e h.out)
end Go.Proofs.YtbmhfnncagncmaaDoor.P
