/- The law OperandOrder's function returns true, whatever its small numbers: the walk joined with its plain law. No conditions beyond the numbers' ranges. -/
import Derived.Test.YtbmhfnncagncmaaDoorPx0
import Derived.Test.YtbmhfnncagncmaaDoorOrdH
import Derived.Test.YtbmhfnncagncmaaDoorOrdU
namespace Go.Proofs.YtbmhfnncagncmaaDoor.P
open Go.RowKit Go.Proofs.YtbmhfnncagncmaaDoorW.PrintWords Go.Proofs.YtbmhfnncagncmaaDoorW.PrintLast
theorem u8_range {x : Int} (h : (Lit.int .u8 x).wf = true) : 0 ≤ x ∧ x ≤ 255 := by
  simp only [Lit.wf, Bool.and_eq_true, decide_eq_true_eq] at h
  exact h
theorem order_true (a0 a1 a2 a3 a4 a5 a6 a7 a8 a9 a10 b : Int) (h : (Lit.int .u8 a0).wf = true ∧ (Lit.int .u8 a1).wf = true ∧ (Lit.int .u8 a2).wf = true ∧ (Lit.int .u8 a3).wf = true ∧ (Lit.int .u8 a4).wf = true ∧ (Lit.int .u8 a5).wf = true ∧ (Lit.int .u8 a6).wf = true ∧ (Lit.int .u8 a7).wf = true ∧ (Lit.int .u8 a8).wf = true ∧ (Lit.int .u8 a9).wf = true ∧ (Lit.int .u32 a10).wf = true) (hb : (Lit.int .u8 b).wf = true) (w : World) (htab : TabAt w) :
    Calls Tryd.prog 4 #[.agg #[.int .u8 a0, .int .u8 a1, .int .u8 a2, .int .u8 a3, .int .u8 a4, .int .u8 a5, .int .u8 a6, .int .u8 a7, .int .u8 a8, .int .u8 a9, .int .u32 a10], .int .u8 b] w fun e w' => e = .returned (.bool true) ∧ Below w.heap.size w w' := by
  obtain ⟨h0, h1, h2, h3, h4, h5, h6, h7, h8, h9, h10⟩ := h
  have hr : ∀ x ∈ [a0, a1, a2, a3, a4, a5, a6, a7, a8], 0 ≤ x ∧ x ≤ 255 := by
    intro x hx
    simp only [List.mem_cons, List.mem_nil_iff, or_false] at hx
    rcases hx with rfl | rfl | rfl | rfl | rfl | rfl | rfl | rfl | rfl
    · exact u8_range h0
    · exact u8_range h1
    · exact u8_range h2
    · exact u8_range h3
    · exact u8_range h4
    · exact u8_range h5
    · exact u8_range h6
    · exact u8_range h7
    · exact u8_range h8
  have hb' := u8_range hb
  obtain ⟨k, l, p, rc, mm, cv, ji, p1, p2, p3, p4, p5, p6, p7, p8, p9, p10, p11, p12⟩ := PureO.order_parts a0 a1 a2 a3 a4 a5 a6 a7 a8 a9 a10 b hr hb'.1 hb'.2
  exact order_walk k a0 a1 a2 a3 a4 a5 a6 a7 a8 a9 a10 b l p rc mm cv ji w p1 p2 p3 p4 p5 p6 p7 p8 p9 p10 p11 p12 htab
end Go.Proofs.YtbmhfnncagncmaaDoor.P
