/- The pure statement of NumTells: numbers are written and read as the reference does. No conditions. -/
import Derived.Test.YtalcenfcknmchaaDoorPx0
import Derived.Test.YtalcenfcknmchaaDoorPx12
import Derived.Test.YtalcenfcknmchaaDoorPx22
import Derived.Test.YtalcenfcknmchaaDoorPx23
import Derived.Test.YtalcenfcknmchaaDoorNumX
import Derived.Test.YtalcenfcknmchaaDoorPureNumRuns
import Derived.Test.YtalcenfcknmchaaDoorDig
namespace Go.Proofs.YtalcenfcknmchaaDoor.Pure
open Go.RowKit Go.Proofs.YtalcenfcknmchaaDoorW.PrintWords Go.Proofs.YtalcenfcknmchaaDoorW.PrintLast Go.Proofs.YtalcenfcknmchaaDoor.P Go.Proofs.YtalcenfcknmchaaDoor.Num
set_option linter.unusedVariables false
set_option linter.unusedSimpArgs false
theorem hx_all : ∀ d : Fin 16, Lib.upperB (hl d) = hx d := by decide +kernel
theorem upper_dig : ∀ u : Nat, Lib.toUpperA (hexl u) = digB 16 (by omega) u := by
  intro u
  induction u using Nat.strongRecOn with
  | _ u ih =>
    by_cases h : u < 16
    · rw [upper_lt h, digB_lt _ h]; exact congrArg (fun x => [x]) (hx_all ⟨u, h⟩)
    · rw [upper_ge h, digB_ge _ h, ih (u / 16) (by omega)]
      exact congrArg (fun x => digB 16 (by omega) (u / 16) ++ [x]) (hx_all ⟨u % 16, by omega⟩)
theorem refhex_ev (n : Int) (h0 : 0 ≤ n) (h1 : n ≤ 9223372036854775807) : Ev (fun k => salvorref1_Hex.f k n) ⟨(hexT n.toNat).toArray⟩ := by
  unfold salvorref1_Hex.f
  simp only [if_neg (show ¬ n < 0 by omega)]
  have w : IntKind.u64.wrap n = ((n.toNat : Nat) : Int) := by rw [IntWalk.u64_in _ ⟨by omega, by omega⟩]; omega
  rw [w]
  have hd := digits_ev n.toNat 16 8 (by omega) (by omega) (by omega) (by omega) (by omega)
  refine Ev.bind hd ?_
  have hl := hexl_len 15 n.toNat (by omega)
  have hu := upper_len n.toNat
  rw [upper_dig] at hu
  have hp : (pad 8 (digB 16 (by omega) n.toNat)).length ≤ 24 := by unfold pad; rw [List.length_append, List.length_replicate, hu]; omega
  rw [if_pos (by rw [bl_size]; omega)]
  have e : (⟨#[48, 120]⟩ : ByteArray) ++ bl (pad 8 (digB 16 (by omega) n.toNat)) = ⟨(hexT n.toNat).toArray⟩ := by
    rw [show (⟨#[48, 120]⟩ : ByteArray) = bl [48, 120] from rfl, bl_append, hexT_eq, upper_dig]
    unfold pad bl
    rw [hu]
  rw [e]
  exact Ev.now _
theorem NumTells : ∀ (x0 : Int) (x1 : ByteArray), (Lit.int .i64 x0).wf = true → x1.size ≤ maxLen → ∃ k, salvorlaw2_NumTells.f k x0 x1 = some true := by
  intro n s hn _
  have hr : -9223372036854775808 ≤ n ∧ n ≤ 9223372036854775807 := by
    simp only [Lit.wf, Bool.and_eq_true, decide_eq_true_eq] at hn
    simpa [IntKind.min, IntKind.max, IntKind.signed, IntKind.bits] using hn
  obtain ⟨h0, h1⟩ := hr
  have hruns : Ev (fun k => (salvorlaw2_NumRuns.f k).bind fun t => some t) true := Ev.bind runs_ev (Ev.now _)
  refine Ev.rounds (g := fun k => salvorlaw2_NumTells.f k n s) ?_
  unfold salvorlaw2_NumTells.f
  by_cases hs : (s.size : Int) > 200
  · simp only [if_pos hs]; exact hruns
  · simp only [if_neg hs]
    have hs2 : s.size ≤ 100000 := by omega
    rw [getDec_f s hs2]
    refine Ev.bind (Ev.now _) ?_
    refine Ev.bind (refGetDec_ev s hs2) ?_
    rw [getHex_f s hs2]
    refine Ev.bind (Ev.now _) ?_
    refine Ev.bind (refGetHex_ev s hs2) ?_
    refine Ev.bind (get_ev s hs2) ?_
    refine Ev.bind (refGet_ev s hs2) ?_
    rw [itoa_f n h0 h1]
    refine Ev.bind (Ev.now _) ?_
    refine Ev.bind (refdec_ev n h0 h1) ?_
    simp only [if_pos (show (⟨(Lib.itoa n).toArray⟩ : ByteArray).toList = (bl (Lib.itoa n)).toList from rfl)]
    rw [hex_f n h1]
    refine Ev.bind (Ev.now _) ?_
    have hH : Ev (fun k => salvorref1_Hex.f k n) (if n < 0 then ⟨#[]⟩ else ⟨(hexT n.toNat).toArray⟩) := by
      by_cases c : n < 0
      · rw [if_pos c]
        unfold salvorref1_Hex.f
        simp only [if_pos c]
        exact Ev.now _
      · rw [if_neg c]; exact refhex_ev n (by omega) h1
    refine Ev.bind hH ?_
    simp only [if_true, beq_self_eq_true]
    exact hruns
end Go.Proofs.YtalcenfcknmchaaDoor.Pure
