/- Laid by a program of this session's own (wip/wprint.py, over the kit's print.py): functions of the given program as plain Lean functions, and that the program's calls come to their answers. -/
import Derived.Test.YtbmhfnncagncmaaDoorPx0
import Derived.Test.YtbmhfnncagncmaaDoorPx1
namespace Go.Proofs.YtbmhfnncagncmaaDoor.P
open Go.RowKit Go.Proofs.YtbmhfnncagncmaaDoorW.PrintWords Go.Proofs.YtbmhfnncagncmaaDoorW.PrintLast Go.Proofs.YtbmhfnncagncmaaDoorW.PrintMore
attribute [local go_sem] max2_int min2_int max_two min_two max_three min_three max_four min_four   -- for this text's walks alone
set_option linter.unusedVariables false
set_option linter.unusedSimpArgs false

theorem eqA25 (d : Nat) (w : World) (x0 y0 : Bool) (x1 y1 : Bool) (x2 y2 : Bool) (x3 y3 : Bool) (x4 y4 : Bool) (x5 y5 : Bool) (x6 y6 : Bool) (x7 y7 : Bool) (x8 y8 : Int) (x9 y9 : ByteArray) (x10 y10 : ByteArray) (x11 y11 : Int) (x12 y12 : Int) (x13 y13 : Int) (x14 y14 : Int) (x15 y15 : Int) (x16 y16 : Bool) (x17 y17 : Bool) (x18 y18 : Bool) (x19 y19 : Bool) (x20 y20 : Bool) (x21 y21 : Bool) (x22 y22 : Bool) (x23 y23 : Bool) (x24 y24 : Bool) (x25 y25 : Bool) :
    (Op.equalIn (d + 3) 25 (.agg #[.bool x0, .bool x1, .bool x2, .bool x3, .bool x4, .bool x5, .bool x6, .bool x7, .int .i64 x8, .string x9, .string x10, .int .i64 x11, .int .i64 x12, .int .i64 x13, .int .i64 x14, .int .i64 x15, .bool x16, .bool x17, .bool x18, .bool x19, .bool x20, .bool x21, .bool x22, .bool x23, .bool x24, .bool x25]) (.agg #[.bool y0, .bool y1, .bool y2, .bool y3, .bool y4, .bool y5, .bool y6, .bool y7, .int .i64 y8, .string y9, .string y10, .int .i64 y11, .int .i64 y12, .int .i64 y13, .int .i64 y14, .int .i64 y15, .bool y16, .bool y17, .bool y18, .bool y19, .bool y20, .bool y21, .bool y22, .bool y23, .bool y24, .bool y25])).run Tryd.prog w = .ok ((x0 == y0 && (x1 == y1 && (x2 == y2 && (x3 == y3 && (x4 == y4 && (x5 == y5 && (x6 == y6 && (x7 == y7 && (x8 == y8))))))))) && (x9.toList == y9.toList && (x10.toList == y10.toList && (x11 == y11 && (x12 == y12 && (x13 == y13 && (x14 == y14 && (x15 == y15 && (x16 == y16 && (x17 == y17 && (x18 == y18 && (x19 == y19 && (x20 == y20 && (x21 == y21 && (x22 == y22 && (x23 == y23 && (x24 == y24 && (x25 == y25)))))))))))))))))) w := by
  refine eqA_of Tryd.underlying25 (by kernel_rfl) ?_
  refine eqf_cons (by rfl) (by go_simp) (by go_simp) (eqA23 (d + 0) w _ _ _ _ _ _ _ _ _ _ _ _ _ _ _ _ _ _) ?_
  refine eqf_cons (by rfl) (by go_simp; rfl) (by go_simp; rfl) (by go_simp) ?_
  refine eqf_cons (by rfl) (by go_simp; rfl) (by go_simp; rfl) (by go_simp) ?_
  refine eqf_cons (by rfl) (by go_simp; rfl) (by go_simp; rfl) (by go_simp) ?_
  refine eqf_cons (by rfl) (by go_simp; rfl) (by go_simp; rfl) (by go_simp) ?_
  refine eqf_cons (by rfl) (by go_simp; rfl) (by go_simp; rfl) (by go_simp) ?_
  refine eqf_cons (by rfl) (by go_simp; rfl) (by go_simp; rfl) (by go_simp) ?_
  refine eqf_cons (by rfl) (by go_simp; rfl) (by go_simp; rfl) (by go_simp) ?_
  refine eqf_cons (by rfl) (by go_simp; rfl) (by go_simp; rfl) (by go_simp) ?_
  refine eqf_cons (by rfl) (by go_simp; rfl) (by go_simp; rfl) (by go_simp) ?_
  refine eqf_cons (by rfl) (by go_simp; rfl) (by go_simp; rfl) (by go_simp) ?_
  refine eqf_cons (by rfl) (by go_simp; rfl) (by go_simp; rfl) (by go_simp) ?_
  refine eqf_cons (by rfl) (by go_simp; rfl) (by go_simp; rfl) (by go_simp) ?_
  refine eqf_cons (by rfl) (by go_simp; rfl) (by go_simp; rfl) (by go_simp) ?_
  refine eqf_cons (by rfl) (by go_simp; rfl) (by go_simp; rfl) (by go_simp) ?_
  refine eqf_cons (by rfl) (by go_simp; rfl) (by go_simp; rfl) (by go_simp) ?_
  refine eqf_cons (by rfl) (by go_simp; rfl) (by go_simp; rfl) (by go_simp) ?_
  exact eqf_last (by rfl) (by go_simp; rfl) (by go_simp; rfl) (by go_simp)
end Go.Proofs.YtbmhfnncagncmaaDoor.P
