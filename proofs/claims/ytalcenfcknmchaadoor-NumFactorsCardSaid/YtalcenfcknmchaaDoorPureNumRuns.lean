/- The pure statement of NumRuns: a closed run. No conditions. -/
import Derived.Test.YtalcenfcknmchaaDoorPx0
import Derived.Test.YtalcenfcknmchaaDoorPx12
import Derived.Test.YtalcenfcknmchaaDoorNumV
namespace Go.Proofs.YtalcenfcknmchaaDoor.Pure
open Go.RowKit Go.Proofs.YtalcenfcknmchaaDoorW.PrintWords Go.Proofs.YtalcenfcknmchaaDoorW.PrintLast Go.Proofs.YtalcenfcknmchaaDoor.P Go.Proofs.YtalcenfcknmchaaDoor.Num
set_option linter.unusedVariables false
set_option linter.unusedSimpArgs false
theorem dec7 : Lib.itoa (-7) = [45, 55] := by
  show (45 : UInt8) :: Lib.decDigits 7 = _
  rw [dec_lt (by omega)]
  decide
theorem hex255 : hexT (255 : Int).toNat = [48, 120, 48, 48, 48, 48, 48, 48, 70, 70] := by
  have e : hexl 255 = [102, 102] := by rw [hexl_ge (by omega), hexl_lt (by omega)]; decide
  show hexT 255 = _
  unfold hexT
  rw [e]
  decide
theorem runs_ev : Ev (fun k => salvorlaw2_NumRuns.f k) true := by
  have h1 := get_ev ⟨#[50, 120, 51, 107]⟩ (by decide)
  have e1 : val (getL (⟨#[50, 120, 51, 107]⟩ : ByteArray).data.toList) = (6144, true) := by decide +kernel
  rw [e1] at h1
  have h2 := getHex_f ⟨#[48, 120, 49, 102]⟩ (by decide)
  have e2 : val (if (⟨#[48, 120, 49, 102]⟩ : ByteArray).data.toList.take 2 = [48, 120] then dgN 16 16 ((⟨#[48, 120, 49, 102]⟩ : ByteArray).data.toList.drop 2) else none) = (31, true) := by decide +kernel
  rw [e2] at h2
  have h3 := hex_f 255 (by omega)
  rw [if_neg (by omega), hex255] at h3
  have h4 := itoa_f (-7) (by omega) (by omega)
  rw [dec7] at h4
  have hg : Ev (fun k => salvorlaw2_NumRuns.g k) true := by
    unfold salvorlaw2_NumRuns.g
    refine Ev.bind h1 ?_
    rw [h2]
    simp only [Option.bind_some, if_true, h3, h4]
    rw [if_pos (by decide +kernel), if_pos (by decide +kernel)]
    exact Ev.now _
  unfold salvorlaw2_NumRuns.f
  exact Ev.bind hg (Ev.now _)
theorem NumRuns : ∃ k, salvorlaw2_NumRuns.f k = some true := Ev.rounds runs_ev
end Go.Proofs.YtalcenfcknmchaaDoor.Pure
