/- The walk of TallyRuns: it returns true in whatever world holds the library's table. No conditions beyond the table. -/
import Derived.Test.YtabmegbapfajoaaDoorPx0
import Derived.Test.YtabmegbapfajoaaDoorPx2
import Derived.Test.YtabmegbapfajoaaDoorPx5
namespace Go.Proofs.YtabmegbapfajoaaDoor.P
open Go.RowKit Go.Proofs.YtabmegbapfajoaaDoorW.PrintWords Go.Proofs.YtabmegbapfajoaaDoorW.PrintLast
set_option linter.unusedVariables false
set_option linter.unusedSimpArgs false
theorem text0 : tally_Text.f 0 0 0 0 0 = some ⟨#[48, 43, 48, 32, 114, 101, 99, 111, 114, 100, 115, 32, 105, 110, 10, 48, 43, 48, 32, 114, 101, 99, 111, 114, 100, 115, 32, 111, 117, 116, 10]⟩ := by decide +kernel
theorem text12 : tally_Text.f 12 0 0 0 2 = some ⟨#[49, 50, 43, 48, 32, 114, 101, 99, 111, 114, 100, 115, 32, 105, 110, 10, 48, 43, 48, 32, 114, 101, 99, 111, 114, 100, 115, 32, 111, 117, 116, 10, 50, 32, 116, 114, 117, 110, 99, 97, 116, 101, 100, 32, 114, 101, 99, 111, 114, 100, 115, 10]⟩ := by decide +kernel
set_option maxHeartbeats 8000000 in
set_option maxRecDepth 100000 in
theorem tallyRuns_walk (w : World) (htab : TabAt w) : Calls Tryd.prog 3 #[] w fun e w' => e = .returned (.bool true) ∧ Below w.heap.size w w' := by
  have HTAB := Aside0.mk htab
  clear htab
  have HB := Aside0.mk (Below.refl w.heap.size w)
  go_enter Tryd.func3, Tryd.ntmps3
  go_wp2_with (first
    | ((with_reducible refine gate_dst (N := 1) rfl ?_); refine box_e 1 #[.int .i64 0, .int .i64 0, .int .i64 0, .int .i64 0, .int .i64 0] 25 ?_; intro g hg w1 hbox hb; have GE := bg_ HB hg; have HI := Aside0.mk (show IsS25 w w1 g 0 0 0 0 0 from ⟨hbox, GE.out⟩); replace HB := bs_ HB hb; clear hb hbox hg)
    | (go_at_call 6; ((with_reducible refine (tally_Counter_In.calls _ 0 0 0 0 0 3 3 1 0 0 0 0 w _ HI.out HB.out ?c1).mono ?_); (case c1 => decide +kernel); rintro e w2 ⟨rfl, hi, hb, hk⟩; replace HI := Aside0.mk hi; replace HB := Aside0.mk hb; clear hi hb hk))
    | (go_at_call 6; (with_reducible refine (tally_Counter_In.calls _ 1 0 0 0 0 0 3 1 1 0 0 0 w _ HI.out HB.out ?c2).mono ?_); (case c2 => decide +kernel); rintro e w3 ⟨rfl, hi, hb, hk⟩; replace HI := Aside0.mk hi; replace HB := Aside0.mk hb; clear hi hb hk)
    | (go_at_call 7; (with_reducible refine (tally_Counter_Out.calls _ 1 1 0 0 0 2 5 1 1 0 1 0 w _ HI.out HB.out ?c3).mono ?_); (case c3 => decide +kernel); rintro e w4 ⟨rfl, hi, hb, hk⟩; replace HI := Aside0.mk hi; replace HB := Aside0.mk hb; clear hi hb hk)
    | (go_at_call 8; (with_reducible refine (tally_Counter_Lines.calls _ 1 1 0 1 0 1 1 1 0 1 1 w _ HI.out HB.out ?c4).mono ?_); (case c4 => decide +kernel); rintro e w5 ⟨rfl, hi, hb, hk⟩; replace HI := Aside0.mk hi; replace HB := Aside0.mk hb; clear hi hb hk)
    | (go_at_call 9; (with_reducible refine (tally_Counter_Tally.calls _ 1 1 0 1 1 1 1 0 1 1 1 1 0 1 1 w _ HI.out HB.out ?c5).mono ?_); (case c5 => rfl); rintro e w6 ⟨rfl, hi, hb, hk⟩; replace HI := Aside0.mk hi; replace HB := Aside0.mk hb; clear hi hb hk)
    | (go_at_call 10; (with_reducible refine (tally_Text.calls 0 0 0 0 0 _ _ text0 ?c6).mono ?_); (case c6 => exact tb_ HTAB HB); rintro e w7 ⟨rfl, hb⟩; replace HB := bs_ HB hb; clear hb)
    | (go_at_call 10; (with_reducible refine (tally_Text.calls 12 0 0 0 2 _ _ text12 ?c7).mono ?_); (case c7 => exact tb_ HTAB HB); rintro e w8 ⟨rfl, hb⟩; replace HB := bs_ HB hb; clear hb))
  go_ret
  exact ⟨rfl, bh_ HB⟩
end Go.Proofs.YtabmegbapfajoaaDoor.P
