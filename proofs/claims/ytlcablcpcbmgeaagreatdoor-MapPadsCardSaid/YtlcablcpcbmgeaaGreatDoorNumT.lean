/- Variables of the library's: what the row's list of them says, as the walks ask it. No conditions. -/
import Derived.Test.YtlcablcpcbmgeaaGreatDoorRows
import Derived.Test.YtlcablcpcbmgeaaGreatDoorTab
import Derived.Test.YtlcablcpcbmgeaaGreatDoorShelf
import Derived.Lib.LaidTab
import Derived.Stop.LaidErr
import Derived.LaidLaws
import Derived.MakeChecks
namespace Go.Proofs.YtlcablcpcbmgeaaGreatDoor.Num
open Go.RowKit Go.ChangeShapes Go.WideShapes Go.Proofs.YtlcablcpcbmgeaaGreatDoor.P
theorem star_ : "*" ++ "errors.errorString" = "*errors.errorString" := by decide
theorem row165 (u : TypeId) (h : Tryz.prog.typeName? 3 u = some "*errors.errorString") : u = 165 :=
  typeName_ptr_named (nm := "errors.errorString") (by rw [star_]; kernel_rfl) (by kernel_rfl) (by decide) u (by rw [star_]; exact h)
theorem cells167 : Tryz.prog.cellsOf 167 = 1 := by kernel_rfl
theorem cells9 : Tryz.prog.cellsOf 9 = 1 := by kernel_rfl
theorem table {W : World} (h : laidMetH Tryz.prog Rows.mapRunsRow.laid W) (hs : W.ShapedOpen Tryz.prog) : TabAt W := by
  rw [MakeChecks.laidMetH_plain _ _ _ (by kernel_rfl)] at h
  obtain ⟨a4, s4, hv4, -, -, -⟩ := laid_sentinel (laidMet.tail (laidMet.tail (laidMet.tail (laidMet.tail h)))) (show Tryz.prog.globalNamed "strconv.ErrRange" = some 6 by kernel_rfl) (show (Tryz.prog.globals[6]?).map (·.type) = some 51 by kernel_rfl) Tryz.underlying51 row165 Tryz.underlying165 Tryz.underlying167 rfl rfl Tryz.underlying9 cells167 cells9
  obtain ⟨a3, s3, hv3, -, -, -⟩ := laid_sentinel (laidMet.tail (laidMet.tail (laidMet.tail (laidMet.tail (laidMet.tail h))))) (show Tryz.prog.globalNamed "strconv.ErrSyntax" = some 5 by kernel_rfl) (show (Tryz.prog.globals[5]?).map (·.type) = some 51 by kernel_rfl) Tryz.underlying51 row165 Tryz.underlying165 Tryz.underlying167 rfl rfl Tryz.underlying9 cells167 cells9
  refine ⟨?_, Tryz.laysM146.s1_3 W hs, ⟨165, .pointer (some a3), ?_⟩, ⟨165, .pointer (some a4), ?_⟩, ?_⟩
  · exact Lib.tabIs_of_head (show Tryz.prog.globalNamed "internal/strconv.uint64pow10" = some 2 by kernel_rfl) (show (Tryz.prog.globals[2]?).map (·.type) = some 137 by kernel_rfl) Tryz.underlying137 Tryz.underlying87 (show Tryz.prog.cellsOf 87 = 1 by kernel_rfl) (show Tryz.prog.cellsOf 137 = 20 by kernel_rfl) (laidMet.tail (laidMet.tail h))
  · have h0 := World.var?_cell (show Tryz.prog.globalNamed "strconv.ErrSyntax" = some 5 by kernel_rfl) hv3 0
    simpa using h0
  · have h0 := World.var?_cell (show Tryz.prog.globalNamed "strconv.ErrRange" = some 6 by kernel_rfl) hv4 0
    simpa using h0
  · have ht : Lib.TabIs Tryz.prog W "math/bits.deBruijn64tab" .u8 [0, 1, 56, 2, 57, 49, 28, 3, 61, 58, 42, 50, 38, 29, 17, 4, 62, 47, 59, 36, 45, 43, 51, 22, 53, 39, 33, 30, 24, 18, 12, 5, 63, 55, 48, 27, 60, 41, 37, 16, 46, 35, 44, 21, 52, 32, 23, 11, 54, 26, 40, 15, 34, 20, 31, 10, 25, 14, 19, 9, 13, 8, 7, 6] :=
      Lib.tabIs_of_head (show Tryz.prog.globalNamed "math/bits.deBruijn64tab" = some 8 by kernel_rfl) (show (Tryz.prog.globals[8]?).map (·.type) = some 163 by kernel_rfl) Tryz.underlying163 Tryz.underlying5 (show Tryz.prog.cellsOf 5 = 1 by kernel_rfl) (show Tryz.prog.cellsOf 163 = 64 by kernel_rfl) (laidMet.tail h)
    have h0 := World.var?_cell (show Tryz.prog.globalNamed "math/bits.deBruijn64tab" = some 8 by kernel_rfl) ht 15
    simpa using h0
end Go.Proofs.YtlcablcpcbmgeaaGreatDoor.Num
