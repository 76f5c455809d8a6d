/- Laid by a program of this session's own (wip/wprint.py, over the kit's print.py): functions of the given program as plain Lean functions, and that the program's calls come to their answers. -/
import Derived.Test.YtbmhfnncagncmaaDoorPx0
import Derived.Test.YtbmhfnncagncmaaDoorOprR
namespace Go.Proofs.YtbmhfnncagncmaaDoor.P
open Go.RowKit Go.Proofs.YtbmhfnncagncmaaDoorW.PrintWords Go.Proofs.YtbmhfnncagncmaaDoorW.PrintLast Go.Proofs.YtbmhfnncagncmaaDoorW.PrintMore
attribute [local go_sem] max2_int min2_int max_two min_two max_three min_three max_four min_four   -- for this text's walks alone
set_option linter.unusedVariables false
set_option linter.unusedSimpArgs false

/-! ### salvorlaw24_OperandRuns: function 3 (walked by hand in OprR) -/
def salvorlaw24_OperandRuns.f (k : Nat) : Option (Bool) := some true
theorem salvorlaw24_OperandRuns.mono : ∀ k, LeO (salvorlaw24_OperandRuns.f k) (salvorlaw24_OperandRuns.f (k + 1)) := fun k => LeO.refl _
theorem salvorlaw24_OperandRuns.calls (k : Nat) (r : Bool) (w : World) (h : salvorlaw24_OperandRuns.f k = some r) (htab : TabAt w) : Calls Tryd.prog 3 #[] w fun e w' => e = .returned (.bool r) ∧ Below w.heap.size w w' := by
  obtain rfl := Option.some.inj h
  exact runs_walk w htab

/-! ### salvorkeep_Right: function 16 -/
def salvorkeep_Right.f (a0 : Int) : Option (ByteArray) := (some (([(⟨#[97]⟩ : ByteArray), (⟨#[98]⟩ : ByteArray), (⟨#[99]⟩ : ByteArray), (⟨#[100, 115, 116]⟩ : ByteArray), (⟨#[109, 97, 112]⟩ : ByteArray), (⟨#[120, 45, 49]⟩ : ByteArray)] : List ByteArray) : List ByteArray)).bind fun y251 => (if 0 ≤ (Int.tmod a0 6) then (if (Int.tmod a0 6) < (y251.length : Int) then (some (rdOf ByteArray.empty y251 (Int.tmod a0 6))) else (none)) else (none))
set_option maxHeartbeats 8000000 in
set_option maxRecDepth 100000 in
theorem salvorkeep_Right.calls (a0 : Int) (r : ByteArray) (w : World) (h : salvorkeep_Right.f a0 = some r) :
  Calls Tryd.prog 16 #[.int .u8 a0] w fun e w' => e = .returned (.string r) ∧ Below w.heap.size w w' := by
 have HB := Aside0.mk (Below.refl w.heap.size w)
 have H : ((some (([(⟨#[97]⟩ : ByteArray), (⟨#[98]⟩ : ByteArray), (⟨#[99]⟩ : ByteArray), (⟨#[100, 115, 116]⟩ : ByteArray), (⟨#[109, 97, 112]⟩ : ByteArray), (⟨#[120, 45, 49]⟩ : ByteArray)] : List ByteArray) : List ByteArray)).bind fun y251 => (if 0 ≤ (Int.tmod a0 6) then (if (Int.tmod a0 6) < (y251.length : Int) then (some (rdOf ByteArray.empty y251 (Int.tmod a0 6))) else (none)) else (none))) = some r := h
 clear h
 obtain ⟨y251, hy251⟩ : ∃ y_ : List ByteArray, y_ = (([(⟨#[97]⟩ : ByteArray), (⟨#[98]⟩ : ByteArray), (⟨#[99]⟩ : ByteArray), (⟨#[100, 115, 116]⟩ : ByteArray), (⟨#[109, 97, 112]⟩ : ByteArray), (⟨#[120, 45, 49]⟩ : ByteArray)] : List ByteArray)) := ⟨_, rfl⟩
 replace H : (if 0 ≤ (Int.tmod a0 6) then (if (Int.tmod a0 6) < (y251.length : Int) then (some (rdOf ByteArray.empty y251 (Int.tmod a0 6))) else (none)) else (none)) = some r := by first | (rw [hy251]; with_reducible exact H) | (have H2_ := (Option.bind_some _ _).symm.trans H; rw [hy251]; with_reducible exact H2_) | (have H2_ := (Option.bind_some _ _).symm.trans H; with_reducible exact H2_) | with_reducible exact H | (rw [hy251]; exact H) | exact H
 have Ny251 := Aside0.mk hy251
 clear hy251
 obtain ⟨ji2, hji2⟩ : ∃ j_ : Int, (Int.tmod a0 6) = j_ := ⟨_, rfl⟩
 replace H : (if 0 ≤ (ji2) then (if (ji2) < (y251.length : Int) then (some (rdOf ByteArray.empty y251 (ji2))) else (none)) else (none)) = some r := by first | (rw [hji2] at H; exact H) | (simp only [hji2] at H ⊢; exact H)
 by_cases c3 : 0 ≤ (ji2)
 ·rw [if_pos c3] at H
  have c3b0 : decide (0 ≤ (ji2)) = true := decide_eq_true c3
  clear c3
  by_cases c4 : (ji2) < (y251.length : Int)
  ·rw [if_pos c4] at H
   have c4b0 : decide ((ji2) < (y251.length : Int)) = true := decide_eq_true c4
   clear c4
   obtain rfl := Option.some.inj H
   go_enter Tryd.func16, Tryd.ntmps16
   go_wp2_with (first | ((with_reducible refine gate_dst (N := 3) rfl ?_); refine Kd.R_lit Kd.string _ 9 ?hg (N := 3) ?hd (xs := ([(⟨#[97]⟩ : ByteArray), (⟨#[98]⟩ : ByteArray), (⟨#[99]⟩ : ByteArray), (⟨#[100, 115, 116]⟩ : ByteArray), (⟨#[109, 97, 112]⟩ : ByteArray), (⟨#[120, 45, 49]⟩ : ByteArray)] : List ByteArray)) (inner := [.string (⟨#[97]⟩ : ByteArray), .string (⟨#[98]⟩ : ByteArray), .string (⟨#[99]⟩ : ByteArray), .string (⟨#[100, 115, 116]⟩ : ByteArray), .string (⟨#[109, 97, 112]⟩ : ByteArray), .string (⟨#[120, 45, 49]⟩ : ByteArray)]) (ok := fun _ => True) (okp := fun _ => True) ?hr ?hp (fun _ hk => hk) trivial (Below.refl _ _) (Nat.le_refl _) (by simp) ?_; (case hd => rfl); (case hg => rfl); (case hr => first | (go_simp; done) | (go_simp; rfl)); (case hp => exact (Reps.one (show Kd.M Kd.string _ _ _ (⟨#[97]⟩ : ByteArray) [.string (⟨#[97]⟩ : ByteArray)] from rfl) (Reps.one (show Kd.M Kd.string _ _ _ (⟨#[98]⟩ : ByteArray) [.string (⟨#[98]⟩ : ByteArray)] from rfl) (Reps.one (show Kd.M Kd.string _ _ _ (⟨#[99]⟩ : ByteArray) [.string (⟨#[99]⟩ : ByteArray)] from rfl) (Reps.one (show Kd.M Kd.string _ _ _ (⟨#[100, 115, 116]⟩ : ByteArray) [.string (⟨#[100, 115, 116]⟩ : ByteArray)] from rfl) (Reps.one (show Kd.M Kd.string _ _ _ (⟨#[109, 97, 112]⟩ : ByteArray) [.string (⟨#[109, 97, 112]⟩ : ByteArray)] from rfl) (Reps.one (show Kd.M Kd.string _ _ _ (⟨#[120, 45, 49]⟩ : ByteArray) [.string (⟨#[120, 45, 49]⟩ : ByteArray)] from rfl) (Reps.none _ _)))))))); intro v252 w5 ho6 hb hg_ hnew_; clear hg_ hnew_; (first | rw [← Ny251.out] at ho6 | (simp only [Int.reduceToNat] at ho6; rw [← Ny251.out] at ho6)); have HO253 := Aside0.mk (Kd.R_lower ho6 (below_size (bh_ HB))); replace HB := bs_ HB hb; clear hb ho6; obtain ⟨Ao7, co7, eo7⟩ := Kd.R_slice HO253.out; subst eo7; have p254 : 0 ≤ ((ji2) : Int) := of_decide_eq_true (by first | (with_reducible assumption) | assumption); have q254 : (ji2) < (y251.length : Int) := of_decide_eq_true (by first | (with_reducible assumption) | assumption); obtain ⟨ad254, e254, hx254_0⟩ := Kd.at_string (Kd.R_reads' HO253.out).2.2 (ji2) p254 q254; cases e254; replace p254 := eq_true p254; replace q254 := eq_true q254))
   go_ret
   exact ⟨by first | rfl | (simp [errW_none, errW_some] <;> rfl) | (simp only [← hji2]; first | rfl | (simp [errW_none, errW_some] <;> rfl)) | (simp [*, errW_none, errW_some] <;> rfl), bh_ HB⟩
  ·rw [if_neg c4] at H
   exact absurd H (by simp)
 ·rw [if_neg c3] at H
  exact absurd H (by simp)

end Go.Proofs.YtbmhfnncagncmaaDoor.P
