/- Variables of the library's: what the row's list of them says, as the walks ask it. No conditions. -/
import Derived.Test.YtbmhfnncagncmaaDoorRows
import Derived.Test.YtbmhfnncagncmaaDoorTab
import Derived.Test.YtbmhfnncagncmaaDoorShelf
import Derived.Lib.LaidTab
import Derived.Stop.LaidErr
import Derived.LaidLaws
import Derived.MakeChecks
namespace Go.Proofs.YtbmhfnncagncmaaDoor.Num
open Go.RowKit Go.ChangeShapes Go.WideShapes Go.Proofs.YtbmhfnncagncmaaDoor.P
theorem star_ : "*" ++ "errors.errorString" = "*errors.errorString" := by decide
theorem row117 (u : TypeId) (h : Tryd.prog.typeName? 3 u = some "*errors.errorString") : u = 117 :=
  typeName_ptr_named (nm := "errors.errorString") (by rw [star_]; kernel_rfl) (by kernel_rfl) (by decide) u (by rw [star_]; exact h)
theorem cells119 : Tryd.prog.cellsOf 119 = 1 := by kernel_rfl
theorem cells9 : Tryd.prog.cellsOf 9 = 1 := by kernel_rfl
theorem table {W : World} (h : laidMetH Tryd.prog Rows.operandRunsRow.laid W) (hs : W.ShapedOpen Tryd.prog) : TabAt W := by
  rw [MakeChecks.laidMetH_plain _ _ _ (by kernel_rfl)] at h
  obtain ⟨a4, s4, hv4, -, -, -⟩ := laid_sentinel (laidMet.tail (laidMet.tail (laidMet.tail (laidMet.tail h)))) (show Tryd.prog.globalNamed "strconv.ErrRange" = some 4 by kernel_rfl) (show (Tryd.prog.globals[4]?).map (·.type) = some 97 by kernel_rfl) Tryd.underlying97 row117 Tryd.underlying117 Tryd.underlying119 rfl rfl Tryd.underlying9 cells119 cells9
  obtain ⟨a3, s3, hv3, -, -, -⟩ := laid_sentinel (laidMet.tail (laidMet.tail (laidMet.tail (laidMet.tail (laidMet.tail h))))) (show Tryd.prog.globalNamed "strconv.ErrSyntax" = some 3 by kernel_rfl) (show (Tryd.prog.globals[3]?).map (·.type) = some 97 by kernel_rfl) Tryd.underlying97 row117 Tryd.underlying117 Tryd.underlying119 rfl rfl Tryd.underlying9 cells119 cells9
  refine ⟨?_, Tryd.laysM146.s1_3 W hs, ⟨117, .pointer (some a3), ?_⟩, ⟨117, .pointer (some a4), ?_⟩, ?_⟩
  · exact Lib.tabIs_of_head (show Tryd.prog.globalNamed "internal/strconv.uint64pow10" = some 5 by kernel_rfl) (show (Tryd.prog.globals[5]?).map (·.type) = some 127 by kernel_rfl) Tryd.underlying127 Tryd.underlying83 (show Tryd.prog.cellsOf 83 = 1 by kernel_rfl) (show Tryd.prog.cellsOf 127 = 20 by kernel_rfl) (laidMet.tail (laidMet.tail h))
  · have h0 := World.var?_cell (show Tryd.prog.globalNamed "strconv.ErrSyntax" = some 3 by kernel_rfl) hv3 0
    simpa using h0
  · have h0 := World.var?_cell (show Tryd.prog.globalNamed "strconv.ErrRange" = some 4 by kernel_rfl) hv4 0
    simpa using h0
  · have ht : Lib.TabIs Tryd.prog W "math/bits.deBruijn64tab" .u8 [0, 1, 56, 2, 57, 49, 28, 3, 61, 58, 42, 50, 38, 29, 17, 4, 62, 47, 59, 36, 45, 43, 51, 22, 53, 39, 33, 30, 24, 18, 12, 5, 63, 55, 48, 27, 60, 41, 37, 16, 46, 35, 44, 21, 52, 32, 23, 11, 54, 26, 40, 15, 34, 20, 31, 10, 25, 14, 19, 9, 13, 8, 7, 6] :=
      Lib.tabIs_of_head (show Tryd.prog.globalNamed "math/bits.deBruijn64tab" = some 7 by kernel_rfl) (show (Tryd.prog.globals[7]?).map (·.type) = some 132 by kernel_rfl) Tryd.underlying132 Tryd.underlying5 (show Tryd.prog.cellsOf 5 = 1 by kernel_rfl) (show Tryd.prog.cellsOf 132 = 64 by kernel_rfl) (laidMet.tail h)
    have h0 := World.var?_cell (show Tryd.prog.globalNamed "math/bits.deBruijn64tab" = some 7 by kernel_rfl) ht 15
    simpa using h0
end Go.Proofs.YtbmhfnncagncmaaDoor.Num
