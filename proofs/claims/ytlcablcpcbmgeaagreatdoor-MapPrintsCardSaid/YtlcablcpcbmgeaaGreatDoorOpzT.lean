/- Plain laws of numbers' texts, of seat 2's: the reference's Hex. No program in sight. No conditions. -/
import Derived.Test.YtlcablcpcbmgeaaGreatDoorPx0
import Derived.Test.YtlcablcpcbmgeaaGreatDoorPx27
import Derived.Test.YtlcablcpcbmgeaaGreatDoorOpzV
import Derived.Test.YtlcablcpcbmgeaaGreatDoorOpzD
namespace Go.Proofs.YtlcablcpcbmgeaaGreatDoor.PureN
open Go.RowKit Go.Proofs.YtlcablcpcbmgeaaGreatDoorW.PrintWords Go.Proofs.YtlcablcpcbmgeaaGreatDoorW.PrintLast Go.Proofs.YtlcablcpcbmgeaaGreatDoor.P Go.Proofs.YtlcablcpcbmgeaaGreatDoor.Num
-- names: salvorref1_digits.f salvorref1_Hex.f
set_option linter.unusedVariables false
set_option linter.unusedSimpArgs false
theorem hx_all : ∀ d : Fin 16, Lib.upperB (hl d) = hx d := by decide +kernel
theorem upper_dig : ∀ u : Nat, Lib.toUpperA (hexl u) = digB 16 (by omega) u := by
  intro u
  induction u using Nat.strongRecOn with
  | _ u ih =>
    by_cases h : u < 16
    · rw [upper_lt h, digB_lt _ h]; exact congrArg (fun x => [x]) (hx_all ⟨u, h⟩)
    · rw [upper_ge h, digB_ge _ h, ih (u / 16) (by omega)]
      exact congrArg (fun x => digB 16 (by omega) (u / 16) ++ [x]) (hx_all ⟨u % 16, by omega⟩)
theorem refhex_ev (n : Int) (h0 : 0 ≤ n) (h1 : n ≤ 9223372036854775807) : Ev (fun k => salvorref1_Hex.f k n) ⟨(hexT n.toNat).toArray⟩ := by
  unfold salvorref1_Hex.f
  simp only [if_neg (show ¬ n < 0 by omega)]
  have w : IntKind.u64.wrap n = ((n.toNat : Nat) : Int) := by rw [IntWalk.u64_in _ ⟨by omega, by omega⟩]; omega
  rw [w]
  have hd := digits_ev n.toNat 16 8 (by omega) (by omega) (by omega) (by omega) (by omega)
  refine Ev.bind hd ?_
  have hl := hexl_len 15 n.toNat (by omega)
  have hu := upper_len n.toNat
  rw [upper_dig] at hu
  have hp : (pad 8 (digB 16 (by omega) n.toNat)).length ≤ 24 := by unfold pad; rw [List.length_append, List.length_replicate, hu]; omega
  rw [if_pos (by rw [bl_size]; omega)]
  have e : (⟨#[48, 120]⟩ : ByteArray) ++ bl (pad 8 (digB 16 (by omega) n.toNat)) = ⟨(hexT n.toNat).toArray⟩ := by
    rw [show (⟨#[48, 120]⟩ : ByteArray) = bl [48, 120] from rfl, bl_append, hexT_eq, upper_dig]
    unfold pad bl
    rw [hu]
  rw [e]
  exact Ev.now _
end Go.Proofs.YtlcablcpcbmgeaaGreatDoor.PureN
