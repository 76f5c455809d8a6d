import Derived.Test.YtbmhfnncagncmaaGreatDoorRows
import Derived.Test.YtbmhfnncagncmaaGreatDoorTab
import Derived.Lib.LaidTab
import Derived.Stop.LaidErr
import Derived.LaidLaws
import Derived.MakeChecks
namespace Go.Proofs.YtbmhfnncagncmaaGreatDoor.Num
open Go.RowKit Go.ChangeShapes Go.WideShapes Go.Proofs.YtbmhfnncagncmaaGreatDoor.P
theorem star_ : "*" ++ "errors.errorString" = "*errors.errorString" := by decide
theorem row128 (u : TypeId) (h : Tryz.prog.typeName? 3 u = some "*errors.errorString") : u = 128 :=
  typeName_ptr_named (nm := "errors.errorString") (by rw [star_]; kernel_rfl) (by kernel_rfl) (by decide) u (by rw [star_]; exact h)
theorem cells130 : Tryz.prog.cellsOf 130 = 1 := by kernel_rfl
theorem cells9 : Tryz.prog.cellsOf 9 = 1 := by kernel_rfl
theorem table {W : World} (h : laidMetH Tryz.prog Rows.operandParsesRow.laid W) (hs : W.ShapedOpen Tryz.prog) : TabAt W := by
  rw [MakeChecks.laidMetH_plain _ _ _ (by kernel_rfl)] at h
  obtain ⟨a4, s4, hv4, -, -, -⟩ := laid_sentinel (laidMet.tail (laidMet.tail (laidMet.tail (laidMet.tail h)))) (show Tryz.prog.globalNamed "strconv.ErrRange" = some 4 by kernel_rfl) (show (Tryz.prog.globals[4]?).map (·.type) = some 109 by kernel_rfl) Tryz.underlying109 row128 Tryz.underlying128 Tryz.underlying130 rfl rfl Tryz.underlying9 cells130 cells9
  obtain ⟨a3, s3, hv3, -, -, -⟩ := laid_sentinel (laidMet.tail (laidMet.tail (laidMet.tail (laidMet.tail (laidMet.tail h))))) (show Tryz.prog.globalNamed "strconv.ErrSyntax" = some 3 by kernel_rfl) (show (Tryz.prog.globals[3]?).map (·.type) = some 109 by kernel_rfl) Tryz.underlying109 row128 Tryz.underlying128 Tryz.underlying130 rfl rfl Tryz.underlying9 cells130 cells9
  refine ⟨?_, Tryz.laysM146.s1_3 W hs, ⟨128, .pointer (some a3), ?_⟩, ⟨128, .pointer (some a4), ?_⟩, ?_⟩
  · exact Lib.tabIs_of_head (show Tryz.prog.globalNamed "internal/strconv.uint64pow10" = some 5 by kernel_rfl) (show (Tryz.prog.globals[5]?).map (·.type) = some 137 by kernel_rfl) Tryz.underlying137 Tryz.underlying94 (show Tryz.prog.cellsOf 94 = 1 by kernel_rfl) (show Tryz.prog.cellsOf 137 = 20 by kernel_rfl) (laidMet.tail (laidMet.tail h))
  · have h0 := World.var?_cell (show Tryz.prog.globalNamed "strconv.ErrSyntax" = some 3 by kernel_rfl) hv3 0
    simpa using h0
  · have h0 := World.var?_cell (show Tryz.prog.globalNamed "strconv.ErrRange" = some 4 by kernel_rfl) hv4 0
    simpa using h0
  · have ht : Lib.TabIs Tryz.prog W "math/bits.deBruijn64tab" .u8 [0, 1, 56, 2, 57, 49, 28, 3, 61, 58, 42, 50, 38, 29, 17, 4, 62, 47, 59, 36, 45, 43, 51, 22, 53, 39, 33, 30, 24, 18, 12, 5, 63, 55, 48, 27, 60, 41, 37, 16, 46, 35, 44, 21, 52, 32, 23, 11, 54, 26, 40, 15, 34, 20, 31, 10, 25, 14, 19, 9, 13, 8, 7, 6] :=
      Lib.tabIs_of_head (show Tryz.prog.globalNamed "math/bits.deBruijn64tab" = some 7 by kernel_rfl) (show (Tryz.prog.globals[7]?).map (·.type) = some 142 by kernel_rfl) Tryz.underlying142 Tryz.underlying5 (show Tryz.prog.cellsOf 5 = 1 by kernel_rfl) (show Tryz.prog.cellsOf 142 = 64 by kernel_rfl) (laidMet.tail h)
    have h0 := World.var?_cell (show Tryz.prog.globalNamed "math/bits.deBruijn64tab" = some 7 by kernel_rfl) ht 15
    simpa using h0
end Go.Proofs.YtbmhfnncagncmaaGreatDoor.Num
