/- What Parse answers to the lists of OperandWrong, by the kernel's own reckoning. No conditions. -/
import Derived.Test.YtbmhfnncagncmaaDoorPx0
import Derived.Test.YtbmhfnncagncmaaDoorOprR
namespace Go.Proofs.YtbmhfnncagncmaaDoor.P
open Go.RowKit Go.Proofs.YtbmhfnncagncmaaDoorW.PrintWords Go.Proofs.YtbmhfnncagncmaaDoorW.PrintLast
set_option linter.unusedVariables false
def goodL : List ByteArray := [⟨#[105, 102, 61, 97]⟩, ⟨#[111, 102, 61, 98]⟩, ⟨#[105, 98, 115, 61, 56]⟩, ⟨#[111, 98, 115, 61, 52]⟩, ⟨#[115, 107, 105, 112, 61, 50]⟩, ⟨#[115, 101, 101, 107, 61, 51]⟩, ⟨#[99, 111, 117, 110, 116, 61, 57]⟩, ⟨#[99, 111, 110, 118, 61, 115, 119, 97, 98, 44, 115, 112, 97, 114, 115, 101]⟩]
def badL : List ByteArray := [⟨#[105, 102, 61, 99]⟩, ⟨#[99, 98, 115, 61, 48]⟩, ⟨#[98, 115, 61, 48]⟩, ⟨#[98, 115, 61, 52, 48, 57, 55]⟩, ⟨#[105, 98, 115, 61, 49]⟩, ⟨#[99, 111, 110, 118, 61, 120]⟩, ⟨#[99, 111, 110, 118, 61]⟩, ⟨#[99, 111, 110, 118, 61, 115, 119, 97, 98, 44]⟩, ⟨#[99, 111, 110, 118, 61, 98, 108, 111, 99, 107]⟩, ⟨#[99, 111, 110, 118, 61, 108, 99, 97, 115, 101, 44, 117, 99, 97, 115, 101]⟩, ⟨#[99, 111, 110, 118, 61, 101, 120, 99, 108, 44, 110, 111, 99, 114, 101, 97, 116]⟩, ⟨#[105, 102, 108, 97, 103, 61]⟩, ⟨#[105, 102, 108, 97, 103, 61, 100, 105, 114, 101, 99, 116]⟩, ⟨#[119, 104, 97, 116, 61, 49]⟩, ⟨#[120]⟩, ⟨#[61, 49]⟩, ⟨#[]⟩, ⟨#[98, 115, 61]⟩, ⟨#[99, 98, 115, 61, 45, 49]⟩, ⟨#[98, 115, 61, 49, 120]⟩, ⟨#[115, 116, 97, 116, 117, 115, 61, 110, 111, 110, 101]⟩]
def goodP : PL := { zeroPL with swab := true, src := ⟨#[97]⟩, dst := ⟨#[98]⟩, ibs := 8, obs := 4, skip := 2, seek := 3, count := 9, sparse := true }
theorem good_eval : parseF 40 goodL = some (goodP, 0) := by kernel_rfl
/-- The list with a wrong one at a place. -/
def wrongL (i j : Nat) : List ByteArray := goodL.take j ++ [badL.getD i ⟨#[]⟩] ++ goodL.drop j
def isZ (p : PL) : Bool := decide (p.swab = false ∧ p.block = false ∧ p.unblock = false ∧ p.lcase = false ∧ p.ucase = false ∧ p.ascii = false ∧ p.ebcdic = false ∧ p.ibm = false ∧ p.cbs = 0 ∧ p.src = ⟨#[]⟩ ∧ p.dst = ⟨#[]⟩ ∧ p.ibs = 0 ∧ p.obs = 0 ∧ p.skip = 0 ∧ p.seek = 0 ∧ p.count = 0 ∧ p.all = false ∧ p.direct = false ∧ p.full = false ∧ p.sync = false ∧ p.noerror = false ∧ p.notrunc = false ∧ p.sparse = false ∧ p.fsync = false ∧ p.excl = false ∧ p.nocreat = false)
theorem isZ_eq (p : PL) (h : isZ p = true) : p = zeroPL := by
  obtain ⟨a0, a1, a2, a3, a4, a5, a6, a7, a8, a9, a10, a11, a12, a13, a14, a15, a16, a17, a18, a19, a20, a21, a22, a23, a24, a25⟩ := p
  have h := of_decide_eq_true h
  dsimp only at h
  obtain ⟨rfl, rfl, rfl, rfl, rfl, rfl, rfl, rfl, rfl, rfl, rfl, rfl, rfl, rfl, rfl, rfl, rfl, rfl, rfl, rfl, rfl, rfl, rfl, rfl, rfl, rfl⟩ := h
  rfl
def isBad : Option (PL × Int) → Bool
  | some (p, c) => decide (c = 2) && isZ p
  | none => false
theorem isBad_eq (x : Option (PL × Int)) (h : isBad x = true) : x = some (zeroPL, 2) := by
  obtain _ | ⟨p, c⟩ := x
  · cases h
  · unfold isBad at h
    rw [Bool.and_eq_true] at h
    rw [isZ_eq p h.2, of_decide_eq_true h.1]
theorem wrong_all : ∀ i : Fin 21, ∀ j : Fin 9, isBad (parseF 40 (wrongL i j)) = true := by decide +kernel
theorem wrong_eval (i j : Nat) (hi : i < 21) (hj : j < 9) : parseF 40 (wrongL i j) = some (zeroPL, 2) := isBad_eq _ (wrong_all ⟨i, hi⟩ ⟨j, hj⟩)
def qL : List ByteArray := [⟨#[105, 102, 61, 97]⟩, ⟨#[111, 102, 61, 98]⟩, ⟨#[115, 107, 105, 112, 61, 57, 50, 50, 51, 51, 55, 50, 48, 51, 54, 56, 53, 52, 55, 55, 53, 56, 48, 55]⟩]
theorem qL_eval : parseF 40 qL = some (zeroPL, 2) := by kernel_rfl
def rL : List ByteArray := [⟨#[105, 102, 61, 97]⟩, ⟨#[111, 102, 61, 98]⟩, ⟨#[98, 115, 61, 52, 48, 57, 54]⟩, ⟨#[115, 107, 105, 112, 61, 49, 49, 50, 53, 56, 57, 57, 57, 48, 54, 56, 52, 50, 54, 50, 52]⟩]
def rP : PL := { zeroPL with src := ⟨#[97]⟩, dst := ⟨#[98]⟩, ibs := 4096, obs := 4096, skip := 1125899906842624, all := true, direct := true }
theorem rL_eval : parseF 40 rL = some (rP, 0) := by kernel_rfl
def iL : List ByteArray := [⟨#[105, 102, 61, 97]⟩, ⟨#[111, 102, 61, 98]⟩, ⟨#[98, 115, 61, 52, 48, 57, 54]⟩, ⟨#[115, 107, 105, 112, 61, 49, 49, 50, 53, 56, 57, 57, 57, 48, 54, 56, 52, 50, 54, 50, 53]⟩]
theorem iL_eval : parseF 40 iL = some (zeroPL, 2) := by kernel_rfl
def jL : List ByteArray := [⟨#[105, 102, 61, 97]⟩, ⟨#[111, 102, 61, 98]⟩, ⟨#[98, 115, 61, 52, 48, 57, 54]⟩, ⟨#[115, 101, 101, 107, 61, 50, 54, 56, 52, 51, 53, 52, 53, 54]⟩]
def jP : PL := { zeroPL with src := ⟨#[97]⟩, dst := ⟨#[98]⟩, ibs := 4096, obs := 4096, seek := 268435456, all := true, direct := true }
theorem jL_eval : parseF 40 jL = some (jP, 0) := by kernel_rfl
def mL : List ByteArray := [⟨#[105, 102, 61, 97]⟩, ⟨#[111, 102, 61, 98]⟩, ⟨#[98, 115, 61, 52, 48, 57, 54]⟩, ⟨#[115, 101, 101, 107, 61, 50, 54, 56, 52, 51, 53, 52, 53, 55]⟩]
theorem mL_eval : parseF 40 mL = some (zeroPL, 2) := by kernel_rfl
end Go.Proofs.YtbmhfnncagncmaaDoor.P
