/- The pure statement of NumEdge: the greatest numbers that are read, and those one past them. No conditions. -/
import Derived.Test.YtalcenfcknmchaaDoorPx0
import Derived.Test.YtalcenfcknmchaaDoorPx8
import Derived.Test.YtalcenfcknmchaaDoorPx12
import Derived.Test.YtalcenfcknmchaaDoorPx14
import Derived.Test.YtalcenfcknmchaaDoorPureNumRuns
namespace Go.Proofs.YtalcenfcknmchaaDoor.Pure
open Go.RowKit Go.Proofs.YtalcenfcknmchaaDoorW.PrintWords Go.Proofs.YtalcenfcknmchaaDoorW.PrintLast Go.Proofs.YtalcenfcknmchaaDoor.P Go.Proofs.YtalcenfcknmchaaDoor.Num
set_option linter.unusedVariables false
set_option linter.unusedSimpArgs false
theorem rdOf_at (l : List ByteArray) (i : Nat) (h : i < l.length) : rdOf ByteArray.empty l (i : Int) = l[i] := by unfold rdOf; simp [h]
theorem edge_hex (s : ByteArray) (hs : s.size ≤ 100000) (v : Int × Bool) (h : val (if s.data.toList.take 2 = [48, 120] then dgN 16 16 (s.data.toList.drop 2) else none) = v) : num_GetHex.f s = some v := by rw [getHex_f s hs, h]
theorem edge1_ev (no : List ByteArray) (hno : ∀ s ∈ no, s.size ≤ 100000 ∧ (val (getL s.data.toList)).2 = false) (hl : no.length ≤ 1000) : ∀ d i : Nat, no.length - i = d → i ≤ no.length → Ev (fun k => salvorlaw2_NumEdge.l1 k no (i : Int)) true := by
  have hruns : Ev (fun k => (salvorlaw2_NumRuns.f k).bind fun t => some t) true := Ev.bind runs_ev (Ev.now _)
  have h1 := edge_hex ⟨#[48, 120, 52, 48, 48, 48, 48, 48, 48, 48, 48, 48, 48, 48, 48, 48, 48, 48]⟩ (by decide) (4611686018427387904, true) (by decide +kernel)
  have h2 := edge_hex ⟨#[48, 120, 52, 48, 48, 48, 48, 48, 48, 48, 48, 48, 48, 48, 48, 48, 48, 49]⟩ (by decide) (0, false) (by decide +kernel)
  have h3 := edge_hex ⟨#[48, 120, 48, 48, 48, 48, 48, 48, 48, 48, 48, 48, 48, 48, 48, 48, 48, 48, 49]⟩ (by decide) (0, false) (by decide +kernel)
  have h4 := edge_hex ⟨#[48, 120]⟩ (by decide) (0, false) (by decide +kernel)
  intro d
  induction d with
  | zero =>
    intro i hd hi
    refine Ev.step (f := fun k => (salvorlaw2_NumRuns.f k).bind fun t => some t) (fun k => ?_) hruns
    rw [salvorlaw2_NumEdge.l1, if_neg (by omega), h1, h2, h3, h4]
    rfl
  | succ d ih =>
    intro i hd hi
    have hlt : i < no.length := by omega
    obtain ⟨q1, q2⟩ := hno _ (List.getElem_mem hlt)
    refine Ev.step (f := fun k => (num_Get.f k no[i]).bind fun bt188 => (if bt188.2 = true then (some false) else (salvorlaw2_NumEdge.l1 k no ((i + 1 : Nat) : Int)))) (fun k => ?_) ?_
    · rw [salvorlaw2_NumEdge.l1, if_pos (by omega), if_pos (by omega), rdOf_at no i hlt, wrap_succ i (by omega)]
    · refine Ev.bind (get_ev _ q1) ?_
      rw [q2]
      exact ih (i + 1) (by omega) (by omega)
theorem edge0_ev (yes no : List ByteArray) (hyes : ∀ s ∈ yes, s.size ≤ 100000 ∧ (val (getL s.data.toList)).2 = true) (hno : ∀ s ∈ no, s.size ≤ 100000 ∧ (val (getL s.data.toList)).2 = false) (hl : no.length ≤ 1000) (hl2 : yes.length ≤ 1000) : ∀ d i : Nat, yes.length - i = d → i ≤ yes.length → Ev (fun k => salvorlaw2_NumEdge.l0 k yes no (i : Int)) true := by
  intro d
  induction d with
  | zero =>
    intro i hd hi
    refine Ev.step (f := fun k => salvorlaw2_NumEdge.l1 k no ((0 : Nat) : Int)) (fun k => ?_) (edge1_ev no hno hl no.length 0 (by omega) (by omega))
    rw [salvorlaw2_NumEdge.l0, if_neg (by omega)]; rfl
  | succ d ih =>
    intro i hd hi
    have hlt : i < yes.length := by omega
    obtain ⟨q1, q2⟩ := hyes _ (List.getElem_mem hlt)
    refine Ev.step (f := fun k => (num_Get.f k yes[i]).bind fun bt185 => (if bt185.2 = true then (salvorlaw2_NumEdge.l0 k yes no ((i + 1 : Nat) : Int)) else (some false))) (fun k => ?_) ?_
    · rw [salvorlaw2_NumEdge.l0, if_pos (by omega), if_pos (by omega), rdOf_at yes i hlt, wrap_succ i (by omega)]
    · refine Ev.bind (get_ev _ q1) ?_
      rw [q2]
      exact ih (i + 1) (by omega) (by omega)
theorem NumEdge : ∃ k, salvorlaw2_NumEdge.f k = some true := by
  refine Ev.rounds ?_
  unfold salvorlaw2_NumEdge.f
  refine edge0_ev _ _ ?_ ?_ (by decide) (by decide) _ 0 rfl (by omega)
  · decide +kernel
  · decide +kernel
end Go.Proofs.YtalcenfcknmchaaDoor.Pure
