/- The loop of OperandOrder as a plain function: words of conv are set aside and joined, the other operands kept. No conditions. -/
import Derived.Test.YtbmhfnncagncmaaDoorPx0
namespace Go.Proofs.YtbmhfnncagncmaaDoor.P
open Go.RowKit Go.Proofs.YtbmhfnncagncmaaDoorW.PrintWords Go.Proofs.YtbmhfnncagncmaaDoorW.PrintLast
set_option linter.unusedVariables false
mutual
def ordL : Nat → List ByteArray → List ByteArray → ByteArray → Int → Option (List ByteArray × ByteArray)
 | 0, _, _, _, _ => none
 | k + 1, x5, x11, x12, x13 => if x13 < (x5.length : Int) then (if 0 ≤ x13 then (if ((rdOf ByteArray.empty x5 x13).size : Int) > 5 then (if 0 ≤ 5 then (if 5 ≤ ((rdOf ByteArray.empty x5 x13).size : Int) then (ordJ k x5 x11 x12 x13 (((rdOf ByteArray.empty x5 x13).extract 0 5).toList == ([99, 111, 110, 118, 61] : List UInt8))) else (none)) else (none)) else (ordJ k x5 x11 x12 x13 false)) else (none)) else (some (x11, x12))
def ordJ : Nat → List ByteArray → List ByteArray → ByteArray → Int → Bool → Option (List ByteArray × ByteArray)
 | 0, _, _, _, _, _ => none
 | k + 1, x5, x11, x12, x13, x59 => if x59 = true then (if x12.toList = ([] : List UInt8) then (if 0 ≤ x13 then (if x13 < (x5.length : Int) then (if 5 ≤ ((rdOf ByteArray.empty x5 x13).size : Int) then (if x12.size + ((rdOf ByteArray.empty x5 x13).extract 5 (rdOf ByteArray.empty x5 x13).size).size ≤ 9223372036854775807 then (ordL k x5 x11 (x12 ++ ((rdOf ByteArray.empty x5 x13).extract 5 (rdOf ByteArray.empty x5 x13).size)) (wrap64 (x13 + 1))) else (none)) else (none)) else (none)) else (none)) else (if x12.size + 1 ≤ 9223372036854775807 then (if 0 ≤ x13 then (if x13 < (x5.length : Int) then (if 5 ≤ ((rdOf ByteArray.empty x5 x13).size : Int) then (if (x12 ++ (⟨#[44]⟩ : ByteArray)).size + ((rdOf ByteArray.empty x5 x13).extract 5 (rdOf ByteArray.empty x5 x13).size).size ≤ 9223372036854775807 then (ordL k x5 x11 ((x12 ++ (⟨#[44]⟩ : ByteArray)) ++ ((rdOf ByteArray.empty x5 x13).extract 5 (rdOf ByteArray.empty x5 x13).size)) (wrap64 (x13 + 1))) else (none)) else (none)) else (none)) else (none)) else (none))) else (if 0 ≤ x13 then (if x13 < (x5.length : Int) then (if x11.length < 8796093022208 then (ordL k x5 (x11 ++ [rdOf ByteArray.empty x5 x13]) x12 (wrap64 (x13 + 1))) else (none)) else (none)) else (none))
end
end Go.Proofs.YtbmhfnncagncmaaDoor.P
