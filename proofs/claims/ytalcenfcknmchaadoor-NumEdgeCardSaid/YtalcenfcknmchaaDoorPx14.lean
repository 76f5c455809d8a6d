/- Laid by a program of this session's own (wip/wprint.py, over the kit's print.py): functions of the given program as plain Lean functions, and that the program's calls come to their answers. -/
import Derived.Test.YtalcenfcknmchaaDoorPx0
import Derived.Test.YtalcenfcknmchaaDoorPx8
import Derived.Test.YtalcenfcknmchaaDoorPx12
namespace Go.Proofs.YtalcenfcknmchaaDoor.P
open Go.RowKit Go.Proofs.YtalcenfcknmchaaDoorW.PrintWords Go.Proofs.YtalcenfcknmchaaDoorW.PrintLast Go.Proofs.YtalcenfcknmchaaDoorW.PrintMore
attribute [local go_sem] max2_int min2_int max_two min_two max_three min_three max_four min_four   -- for this text's walks alone
set_option linter.unusedVariables false
set_option linter.unusedSimpArgs false

/-! ### salvorlaw2_NumEdge: function 5 -/
mutual
def salvorlaw2_NumEdge.l0 : Nat → List ByteArray → List ByteArray → Int → Option (Bool)
 | 0, _, _, _ => none
 | k + 1, x1, x2, x3 => if x3 < (x1.length : Int) then (if 0 ≤ x3 then ((num_Get.f k (rdOf ByteArray.empty x1 x3)).bind fun bt185 => (if bt185.2 = true then (salvorlaw2_NumEdge.l0 k x1 x2 (wrap64 (x3 + 1))) else (some false))) else (none)) else (salvorlaw2_NumEdge.l1 k x2 0)
def salvorlaw2_NumEdge.l1 : Nat → List ByteArray → Int → Option (Bool)
 | 0, _, _ => none
 | k + 1, x2, x6 => if x6 < (x2.length : Int) then (if 0 ≤ x6 then ((num_Get.f k (rdOf ByteArray.empty x2 x6)).bind fun bt188 => (if bt188.2 = true then (some false) else (salvorlaw2_NumEdge.l1 k x2 (wrap64 (x6 + 1))))) else (none)) else ((num_GetHex.f (⟨#[48, 120, 52, 48, 48, 48, 48, 48, 48, 48, 48, 48, 48, 48, 48, 48, 48, 48]⟩ : ByteArray)).bind fun bt190 => ((num_GetHex.f (⟨#[48, 120, 52, 48, 48, 48, 48, 48, 48, 48, 48, 48, 48, 48, 48, 48, 48, 49]⟩ : ByteArray)).bind fun bt192 => ((num_GetHex.f (⟨#[48, 120, 48, 48, 48, 48, 48, 48, 48, 48, 48, 48, 48, 48, 48, 48, 48, 48, 49]⟩ : ByteArray)).bind fun bt194 => ((num_GetHex.f (⟨#[48, 120]⟩ : ByteArray)).bind fun bt196 => (if bt190.1 = 4611686018427387904 then (if bt190.2 = true then (if bt192.2 = true then (some false) else (if bt194.2 = true then (some false) else (if bt196.2 = true then (some false) else ((salvorlaw2_NumRuns.f k).bind fun t198 => (some t198))))) else (some false)) else (some false))))))
end
def salvorlaw2_NumEdge.f (k : Nat)  : Option (Bool) := salvorlaw2_NumEdge.l0 k (([(⟨#[52, 54, 49, 49, 54, 56, 54, 48, 49, 56, 52, 50, 55, 51, 56, 55, 57, 48, 52]⟩ : ByteArray), (⟨#[52, 50, 57, 52, 57, 54, 55, 50, 57, 54, 71]⟩ : ByteArray), (⟨#[48]⟩ : ByteArray), (⟨#[48, 48, 120, 49]⟩ : ByteArray), (⟨#[52, 49, 57, 52, 51, 48, 52, 120, 49, 48, 50, 52, 120, 49, 48, 50, 52, 120, 49, 48, 50, 52, 120, 49, 48, 50, 52]⟩ : ByteArray), (⟨#[48, 48, 48, 48, 48, 48, 48, 48, 48, 48, 48, 48, 48, 48, 48, 48, 48, 48, 49]⟩ : ByteArray)] : List ByteArray)) (([(⟨#[52, 54, 49, 49, 54, 56, 54, 48, 49, 56, 52, 50, 55, 51, 56, 55, 57, 48, 53]⟩ : ByteArray), (⟨#[52, 50, 57, 52, 57, 54, 55, 50, 57, 55, 71]⟩ : ByteArray), (⟨#[]⟩ : ByteArray), (⟨#[120]⟩ : ByteArray), (⟨#[49, 120]⟩ : ByteArray), (⟨#[120, 49]⟩ : ByteArray), (⟨#[57, 57, 57, 57, 57, 57, 57, 57, 57, 57, 57, 57, 57, 57, 57, 57, 57, 57, 57]⟩ : ByteArray), (⟨#[48, 48, 48, 48, 48, 48, 48, 48, 48, 48, 48, 48, 48, 48, 48, 48, 48, 48, 48, 49]⟩ : ByteArray), (⟨#[49, 107, 98]⟩ : ByteArray), (⟨#[49, 32]⟩ : ByteArray), (⟨#[45, 49]⟩ : ByteArray), (⟨#[43, 49]⟩ : ByteArray), (⟨#[49, 66]⟩ : ByteArray), (⟨#[49, 107, 75]⟩ : ByteArray), (⟨#[48, 120, 52, 54, 49, 49, 54, 56, 54, 48, 49, 56, 52, 50, 55, 51, 56, 55, 57, 48, 53]⟩ : ByteArray), (⟨#[48, 120, 57, 57, 57, 57, 57, 57, 57, 57, 57, 57, 71, 57]⟩ : ByteArray)] : List ByteArray)) 0
theorem salvorlaw2_NumEdge.mono_l : ∀ k, (∀ y0 y1 y2, LeO (salvorlaw2_NumEdge.l0 k y0 y1 y2) (salvorlaw2_NumEdge.l0 (k + 1) y0 y1 y2)) ∧ (∀ y0 y1, LeO (salvorlaw2_NumEdge.l1 k y0 y1) (salvorlaw2_NumEdge.l1 (k + 1) y0 y1))
 | 0 => ⟨fun _ _ _ r h => by simp [salvorlaw2_NumEdge.l0] at h, fun _ _ r h => by simp [salvorlaw2_NumEdge.l1] at h⟩
 | k + 1 => by
  obtain ⟨ih0, ih1⟩ := salvorlaw2_NumEdge.mono_l k
  refine ⟨?_, ?_⟩
  ·intro y0 y1 y2
   unfold salvorlaw2_NumEdge.l0
   repeat' first
   | (with_reducible exact ih0 _ _ _)
   | (with_reducible exact ih1 _ _)
   | (with_reducible exact num_Get.mono _ _)
   | (with_reducible exact salvorlaw2_NumRuns.mono _)
   | (with_reducible exact LeO.refl _)
   | (with_reducible exact LeO.none _)
   | (with_reducible refine LeO.ite ?_ ?_)
   | (with_reducible refine LeO.bind ?_ (fun _ => ?_))
   | exact ih0 _ _ _
   | exact ih1 _ _
   | exact num_Get.mono _ _
   | exact salvorlaw2_NumRuns.mono _
   | exact LeO.none _
   | refine LeO.ite ?_ ?_
   | refine LeO.bind ?_ (fun _ => ?_)
  ·intro y0 y1
   unfold salvorlaw2_NumEdge.l1
   repeat' first
   | (with_reducible exact ih0 _ _ _)
   | (with_reducible exact ih1 _ _)
   | (with_reducible exact num_Get.mono _ _)
   | (with_reducible exact salvorlaw2_NumRuns.mono _)
   | (with_reducible exact LeO.refl _)
   | (with_reducible exact LeO.none _)
   | (with_reducible refine LeO.ite ?_ ?_)
   | (with_reducible refine LeO.bind ?_ (fun _ => ?_))
   | exact ih0 _ _ _
   | exact ih1 _ _
   | exact num_Get.mono _ _
   | exact salvorlaw2_NumRuns.mono _
   | exact LeO.none _
   | refine LeO.ite ?_ ?_
   | refine LeO.bind ?_ (fun _ => ?_)
theorem salvorlaw2_NumEdge.mono : ∀ k, LeO (salvorlaw2_NumEdge.f k ) (salvorlaw2_NumEdge.f (k + 1) ) := by
 intro  k
 obtain ⟨ih0, ih1⟩ := salvorlaw2_NumEdge.mono_l k
 unfold salvorlaw2_NumEdge.f
 repeat' first
   | (with_reducible exact ih0 _ _ _)
   | (with_reducible exact ih1 _ _)
   | (with_reducible exact num_Get.mono _ _)
   | (with_reducible exact salvorlaw2_NumRuns.mono _)
   | (with_reducible exact LeO.refl _)
   | (with_reducible exact LeO.none _)
   | (with_reducible refine LeO.ite ?_ ?_)
   | (with_reducible refine LeO.bind ?_ (fun _ => ?_))
   | exact ih0 _ _ _
   | exact ih1 _ _
   | exact num_Get.mono _ _
   | exact salvorlaw2_NumRuns.mono _
   | exact LeO.none _
   | refine LeO.ite ?_ ?_
   | refine LeO.bind ?_ (fun _ => ?_)
set_option maxHeartbeats 8000000 in
set_option maxRecDepth 100000 in
theorem salvorlaw2_NumEdge.calls (k : Nat)  (r : Bool) (w : World) (h : salvorlaw2_NumEdge.f k  = some r) (htab : TabAt w) (hrt : r = true) :
  Calls Tryd.prog 5 #[] w fun e w' => e = .returned (.bool r) ∧ Below w.heap.size w w' := by
 have HT := Aside0.mk hrt
 clear hrt
 have HTAB := Aside0.mk htab
 clear htab
 have HB := Aside0.mk (Below.refl w.heap.size w)
 have H : (salvorlaw2_NumEdge.l0 k (([(⟨#[52, 54, 49, 49, 54, 56, 54, 48, 49, 56, 52, 50, 55, 51, 56, 55, 57, 48, 52]⟩ : ByteArray), (⟨#[52, 50, 57, 52, 57, 54, 55, 50, 57, 54, 71]⟩ : ByteArray), (⟨#[48]⟩ : ByteArray), (⟨#[48, 48, 120, 49]⟩ : ByteArray), (⟨#[52, 49, 57, 52, 51, 48, 52, 120, 49, 48, 50, 52, 120, 49, 48, 50, 52, 120, 49, 48, 50, 52, 120, 49, 48, 50, 52]⟩ : ByteArray), (⟨#[48, 48, 48, 48, 48, 48, 48, 48, 48, 48, 48, 48, 48, 48, 48, 48, 48, 48, 49]⟩ : ByteArray)] : List ByteArray)) (([(⟨#[52, 54, 49, 49, 54, 56, 54, 48, 49, 56, 52, 50, 55, 51, 56, 55, 57, 48, 53]⟩ : ByteArray), (⟨#[52, 50, 57, 52, 57, 54, 55, 50, 57, 55, 71]⟩ : ByteArray), (⟨#[]⟩ : ByteArray), (⟨#[120]⟩ : ByteArray), (⟨#[49, 120]⟩ : ByteArray), (⟨#[120, 49]⟩ : ByteArray), (⟨#[57, 57, 57, 57, 57, 57, 57, 57, 57, 57, 57, 57, 57, 57, 57, 57, 57, 57, 57]⟩ : ByteArray), (⟨#[48, 48, 48, 48, 48, 48, 48, 48, 48, 48, 48, 48, 48, 48, 48, 48, 48, 48, 48, 49]⟩ : ByteArray), (⟨#[49, 107, 98]⟩ : ByteArray), (⟨#[49, 32]⟩ : ByteArray), (⟨#[45, 49]⟩ : ByteArray), (⟨#[43, 49]⟩ : ByteArray), (⟨#[49, 66]⟩ : ByteArray), (⟨#[49, 107, 75]⟩ : ByteArray), (⟨#[48, 120, 52, 54, 49, 49, 54, 56, 54, 48, 49, 56, 52, 50, 55, 51, 56, 55, 57, 48, 53]⟩ : ByteArray), (⟨#[48, 120, 57, 57, 57, 57, 57, 57, 57, 57, 57, 57, 71, 57]⟩ : ByteArray)] : List ByteArray)) 0) = some r := h
 clear h
 obtain ⟨y178, hy178⟩ : ∃ y_ : List ByteArray, y_ = (([(⟨#[52, 54, 49, 49, 54, 56, 54, 48, 49, 56, 52, 50, 55, 51, 56, 55, 57, 48, 52]⟩ : ByteArray), (⟨#[52, 50, 57, 52, 57, 54, 55, 50, 57, 54, 71]⟩ : ByteArray), (⟨#[48]⟩ : ByteArray), (⟨#[48, 48, 120, 49]⟩ : ByteArray), (⟨#[52, 49, 57, 52, 51, 48, 52, 120, 49, 48, 50, 52, 120, 49, 48, 50, 52, 120, 49, 48, 50, 52, 120, 49, 48, 50, 52]⟩ : ByteArray), (⟨#[48, 48, 48, 48, 48, 48, 48, 48, 48, 48, 48, 48, 48, 48, 48, 48, 48, 48, 49]⟩ : ByteArray)] : List ByteArray)) := ⟨_, rfl⟩
 replace H : (salvorlaw2_NumEdge.l0 k y178 (([(⟨#[52, 54, 49, 49, 54, 56, 54, 48, 49, 56, 52, 50, 55, 51, 56, 55, 57, 48, 53]⟩ : ByteArray), (⟨#[52, 50, 57, 52, 57, 54, 55, 50, 57, 55, 71]⟩ : ByteArray), (⟨#[]⟩ : ByteArray), (⟨#[120]⟩ : ByteArray), (⟨#[49, 120]⟩ : ByteArray), (⟨#[120, 49]⟩ : ByteArray), (⟨#[57, 57, 57, 57, 57, 57, 57, 57, 57, 57, 57, 57, 57, 57, 57, 57, 57, 57, 57]⟩ : ByteArray), (⟨#[48, 48, 48, 48, 48, 48, 48, 48, 48, 48, 48, 48, 48, 48, 48, 48, 48, 48, 48, 49]⟩ : ByteArray), (⟨#[49, 107, 98]⟩ : ByteArray), (⟨#[49, 32]⟩ : ByteArray), (⟨#[45, 49]⟩ : ByteArray), (⟨#[43, 49]⟩ : ByteArray), (⟨#[49, 66]⟩ : ByteArray), (⟨#[49, 107, 75]⟩ : ByteArray), (⟨#[48, 120, 52, 54, 49, 49, 54, 56, 54, 48, 49, 56, 52, 50, 55, 51, 56, 55, 57, 48, 53]⟩ : ByteArray), (⟨#[48, 120, 57, 57, 57, 57, 57, 57, 57, 57, 57, 57, 71, 57]⟩ : ByteArray)] : List ByteArray)) 0) = some r := by first | (rw [hy178]; with_reducible exact H) | (have H2_ := (Option.bind_some _ _).symm.trans H; rw [hy178]; with_reducible exact H2_) | (have H2_ := (Option.bind_some _ _).symm.trans H; with_reducible exact H2_) | with_reducible exact H | (rw [hy178]; exact H) | exact H
 have Ny178 := Aside0.mk hy178
 clear hy178
 obtain ⟨y181, hy181⟩ : ∃ y_ : List ByteArray, y_ = (([(⟨#[52, 54, 49, 49, 54, 56, 54, 48, 49, 56, 52, 50, 55, 51, 56, 55, 57, 48, 53]⟩ : ByteArray), (⟨#[52, 50, 57, 52, 57, 54, 55, 50, 57, 55, 71]⟩ : ByteArray), (⟨#[]⟩ : ByteArray), (⟨#[120]⟩ : ByteArray), (⟨#[49, 120]⟩ : ByteArray), (⟨#[120, 49]⟩ : ByteArray), (⟨#[57, 57, 57, 57, 57, 57, 57, 57, 57, 57, 57, 57, 57, 57, 57, 57, 57, 57, 57]⟩ : ByteArray), (⟨#[48, 48, 48, 48, 48, 48, 48, 48, 48, 48, 48, 48, 48, 48, 48, 48, 48, 48, 48, 49]⟩ : ByteArray), (⟨#[49, 107, 98]⟩ : ByteArray), (⟨#[49, 32]⟩ : ByteArray), (⟨#[45, 49]⟩ : ByteArray), (⟨#[43, 49]⟩ : ByteArray), (⟨#[49, 66]⟩ : ByteArray), (⟨#[49, 107, 75]⟩ : ByteArray), (⟨#[48, 120, 52, 54, 49, 49, 54, 56, 54, 48, 49, 56, 52, 50, 55, 51, 56, 55, 57, 48, 53]⟩ : ByteArray), (⟨#[48, 120, 57, 57, 57, 57, 57, 57, 57, 57, 57, 57, 71, 57]⟩ : ByteArray)] : List ByteArray)) := ⟨_, rfl⟩
 replace H : (salvorlaw2_NumEdge.l0 k y178 y181 0) = some r := by first | (rw [hy181]; with_reducible exact H) | (have H2_ := (Option.bind_some _ _).symm.trans H; rw [hy181]; with_reducible exact H2_) | (have H2_ := (Option.bind_some _ _).symm.trans H; with_reducible exact H2_) | with_reducible exact H | (rw [hy181]; exact H) | exact H
 have Ny181 := Aside0.mk hy181
 clear hy181
 have H' := Aside0.mk H
 clear H
 go_enter Tryd.func5, Tryd.ntmps5
 go_wp2_with (first | ((with_reducible refine gate_dst (N := 17) rfl ?_); refine Kd.R_lit Kd.string _ 9 ?hg (N := 17) ?hd (xs := ([(⟨#[52, 54, 49, 49, 54, 56, 54, 48, 49, 56, 52, 50, 55, 51, 56, 55, 57, 48, 52]⟩ : ByteArray), (⟨#[52, 50, 57, 52, 57, 54, 55, 50, 57, 54, 71]⟩ : ByteArray), (⟨#[48]⟩ : ByteArray), (⟨#[48, 48, 120, 49]⟩ : ByteArray), (⟨#[52, 49, 57, 52, 51, 48, 52, 120, 49, 48, 50, 52, 120, 49, 48, 50, 52, 120, 49, 48, 50, 52, 120, 49, 48, 50, 52]⟩ : ByteArray), (⟨#[48, 48, 48, 48, 48, 48, 48, 48, 48, 48, 48, 48, 48, 48, 48, 48, 48, 48, 49]⟩ : ByteArray)] : List ByteArray)) (inner := [.string (⟨#[52, 54, 49, 49, 54, 56, 54, 48, 49, 56, 52, 50, 55, 51, 56, 55, 57, 48, 52]⟩ : ByteArray), .string (⟨#[52, 50, 57, 52, 57, 54, 55, 50, 57, 54, 71]⟩ : ByteArray), .string (⟨#[48]⟩ : ByteArray), .string (⟨#[48, 48, 120, 49]⟩ : ByteArray), .string (⟨#[52, 49, 57, 52, 51, 48, 52, 120, 49, 48, 50, 52, 120, 49, 48, 50, 52, 120, 49, 48, 50, 52, 120, 49, 48, 50, 52]⟩ : ByteArray), .string (⟨#[48, 48, 48, 48, 48, 48, 48, 48, 48, 48, 48, 48, 48, 48, 48, 48, 48, 48, 49]⟩ : ByteArray)]) (ok := fun _ => True) (okp := fun _ => True) ?hr ?hp (fun _ hk => hk) trivial (Below.refl _ _) (Nat.le_refl _) (by simp) ?_; (case hd => rfl); (case hg => rfl); (case hr => first | (go_simp; done) | (go_simp; rfl)); (case hp => exact (Reps.one (show Kd.M Kd.string _ _ _ (⟨#[52, 54, 49, 49, 54, 56, 54, 48, 49, 56, 52, 50, 55, 51, 56, 55, 57, 48, 52]⟩ : ByteArray) [.string (⟨#[52, 54, 49, 49, 54, 56, 54, 48, 49, 56, 52, 50, 55, 51, 56, 55, 57, 48, 52]⟩ : ByteArray)] from rfl) (Reps.one (show Kd.M Kd.string _ _ _ (⟨#[52, 50, 57, 52, 57, 54, 55, 50, 57, 54, 71]⟩ : ByteArray) [.string (⟨#[52, 50, 57, 52, 57, 54, 55, 50, 57, 54, 71]⟩ : ByteArray)] from rfl) (Reps.one (show Kd.M Kd.string _ _ _ (⟨#[48]⟩ : ByteArray) [.string (⟨#[48]⟩ : ByteArray)] from rfl) (Reps.one (show Kd.M Kd.string _ _ _ (⟨#[48, 48, 120, 49]⟩ : ByteArray) [.string (⟨#[48, 48, 120, 49]⟩ : ByteArray)] from rfl) (Reps.one (show Kd.M Kd.string _ _ _ (⟨#[52, 49, 57, 52, 51, 48, 52, 120, 49, 48, 50, 52, 120, 49, 48, 50, 52, 120, 49, 48, 50, 52, 120, 49, 48, 50, 52]⟩ : ByteArray) [.string (⟨#[52, 49, 57, 52, 51, 48, 52, 120, 49, 48, 50, 52, 120, 49, 48, 50, 52, 120, 49, 48, 50, 52, 120, 49, 48, 50, 52]⟩ : ByteArray)] from rfl) (Reps.one (show Kd.M Kd.string _ _ _ (⟨#[48, 48, 48, 48, 48, 48, 48, 48, 48, 48, 48, 48, 48, 48, 48, 48, 48, 48, 49]⟩ : ByteArray) [.string (⟨#[48, 48, 48, 48, 48, 48, 48, 48, 48, 48, 48, 48, 48, 48, 48, 48, 48, 48, 49]⟩ : ByteArray)] from rfl) (Reps.none _ _)))))))); intro v179 w1 ho2 hb hg_ hnew_; clear hg_ hnew_; (first | rw [← Ny178.out] at ho2 | (simp only [Int.reduceToNat] at ho2; rw [← Ny178.out] at ho2)); have HO180 := Aside0.mk (Kd.R_lower ho2 (below_size (bh_ HB))); replace HB := bs_ HB hb; clear hb ho2) | ((with_reducible refine gate_dst (N := 18) rfl ?_); refine Kd.R_lit Kd.string _ 9 ?hg (N := 18) ?hd (xs := ([(⟨#[52, 54, 49, 49, 54, 56, 54, 48, 49, 56, 52, 50, 55, 51, 56, 55, 57, 48, 53]⟩ : ByteArray), (⟨#[52, 50, 57, 52, 57, 54, 55, 50, 57, 55, 71]⟩ : ByteArray), (⟨#[]⟩ : ByteArray), (⟨#[120]⟩ : ByteArray), (⟨#[49, 120]⟩ : ByteArray), (⟨#[120, 49]⟩ : ByteArray), (⟨#[57, 57, 57, 57, 57, 57, 57, 57, 57, 57, 57, 57, 57, 57, 57, 57, 57, 57, 57]⟩ : ByteArray), (⟨#[48, 48, 48, 48, 48, 48, 48, 48, 48, 48, 48, 48, 48, 48, 48, 48, 48, 48, 48, 49]⟩ : ByteArray), (⟨#[49, 107, 98]⟩ : ByteArray), (⟨#[49, 32]⟩ : ByteArray), (⟨#[45, 49]⟩ : ByteArray), (⟨#[43, 49]⟩ : ByteArray), (⟨#[49, 66]⟩ : ByteArray), (⟨#[49, 107, 75]⟩ : ByteArray), (⟨#[48, 120, 52, 54, 49, 49, 54, 56, 54, 48, 49, 56, 52, 50, 55, 51, 56, 55, 57, 48, 53]⟩ : ByteArray), (⟨#[48, 120, 57, 57, 57, 57, 57, 57, 57, 57, 57, 57, 71, 57]⟩ : ByteArray)] : List ByteArray)) (inner := [.string (⟨#[52, 54, 49, 49, 54, 56, 54, 48, 49, 56, 52, 50, 55, 51, 56, 55, 57, 48, 53]⟩ : ByteArray), .string (⟨#[52, 50, 57, 52, 57, 54, 55, 50, 57, 55, 71]⟩ : ByteArray), .string (⟨#[]⟩ : ByteArray), .string (⟨#[120]⟩ : ByteArray), .string (⟨#[49, 120]⟩ : ByteArray), .string (⟨#[120, 49]⟩ : ByteArray), .string (⟨#[57, 57, 57, 57, 57, 57, 57, 57, 57, 57, 57, 57, 57, 57, 57, 57, 57, 57, 57]⟩ : ByteArray), .string (⟨#[48, 48, 48, 48, 48, 48, 48, 48, 48, 48, 48, 48, 48, 48, 48, 48, 48, 48, 48, 49]⟩ : ByteArray), .string (⟨#[49, 107, 98]⟩ : ByteArray), .string (⟨#[49, 32]⟩ : ByteArray), .string (⟨#[45, 49]⟩ : ByteArray), .string (⟨#[43, 49]⟩ : ByteArray), .string (⟨#[49, 66]⟩ : ByteArray), .string (⟨#[49, 107, 75]⟩ : ByteArray), .string (⟨#[48, 120, 52, 54, 49, 49, 54, 56, 54, 48, 49, 56, 52, 50, 55, 51, 56, 55, 57, 48, 53]⟩ : ByteArray), .string (⟨#[48, 120, 57, 57, 57, 57, 57, 57, 57, 57, 57, 57, 71, 57]⟩ : ByteArray)]) (ok := fun _ => True) (okp := fun _ => True) ?hr ?hp (fun _ hk => hk) trivial (Below.refl _ _) (Nat.le_refl _) (by simp) ?_; (case hd => rfl); (case hg => rfl); (case hr => first | (go_simp; done) | (go_simp; rfl)); (case hp => exact (Reps.one (show Kd.M Kd.string _ _ _ (⟨#[52, 54, 49, 49, 54, 56, 54, 48, 49, 56, 52, 50, 55, 51, 56, 55, 57, 48, 53]⟩ : ByteArray) [.string (⟨#[52, 54, 49, 49, 54, 56, 54, 48, 49, 56, 52, 50, 55, 51, 56, 55, 57, 48, 53]⟩ : ByteArray)] from rfl) (Reps.one (show Kd.M Kd.string _ _ _ (⟨#[52, 50, 57, 52, 57, 54, 55, 50, 57, 55, 71]⟩ : ByteArray) [.string (⟨#[52, 50, 57, 52, 57, 54, 55, 50, 57, 55, 71]⟩ : ByteArray)] from rfl) (Reps.one (show Kd.M Kd.string _ _ _ (⟨#[]⟩ : ByteArray) [.string (⟨#[]⟩ : ByteArray)] from rfl) (Reps.one (show Kd.M Kd.string _ _ _ (⟨#[120]⟩ : ByteArray) [.string (⟨#[120]⟩ : ByteArray)] from rfl) (Reps.one (show Kd.M Kd.string _ _ _ (⟨#[49, 120]⟩ : ByteArray) [.string (⟨#[49, 120]⟩ : ByteArray)] from rfl) (Reps.one (show Kd.M Kd.string _ _ _ (⟨#[120, 49]⟩ : ByteArray) [.string (⟨#[120, 49]⟩ : ByteArray)] from rfl) (Reps.one (show Kd.M Kd.string _ _ _ (⟨#[57, 57, 57, 57, 57, 57, 57, 57, 57, 57, 57, 57, 57, 57, 57, 57, 57, 57, 57]⟩ : ByteArray) [.string (⟨#[57, 57, 57, 57, 57, 57, 57, 57, 57, 57, 57, 57, 57, 57, 57, 57, 57, 57, 57]⟩ : ByteArray)] from rfl) (Reps.one (show Kd.M Kd.string _ _ _ (⟨#[48, 48, 48, 48, 48, 48, 48, 48, 48, 48, 48, 48, 48, 48, 48, 48, 48, 48, 48, 49]⟩ : ByteArray) [.string (⟨#[48, 48, 48, 48, 48, 48, 48, 48, 48, 48, 48, 48, 48, 48, 48, 48, 48, 48, 48, 49]⟩ : ByteArray)] from rfl) (Reps.one (show Kd.M Kd.string _ _ _ (⟨#[49, 107, 98]⟩ : ByteArray) [.string (⟨#[49, 107, 98]⟩ : ByteArray)] from rfl) (Reps.one (show Kd.M Kd.string _ _ _ (⟨#[49, 32]⟩ : ByteArray) [.string (⟨#[49, 32]⟩ : ByteArray)] from rfl) (Reps.one (show Kd.M Kd.string _ _ _ (⟨#[45, 49]⟩ : ByteArray) [.string (⟨#[45, 49]⟩ : ByteArray)] from rfl) (Reps.one (show Kd.M Kd.string _ _ _ (⟨#[43, 49]⟩ : ByteArray) [.string (⟨#[43, 49]⟩ : ByteArray)] from rfl) (Reps.one (show Kd.M Kd.string _ _ _ (⟨#[49, 66]⟩ : ByteArray) [.string (⟨#[49, 66]⟩ : ByteArray)] from rfl) (Reps.one (show Kd.M Kd.string _ _ _ (⟨#[49, 107, 75]⟩ : ByteArray) [.string (⟨#[49, 107, 75]⟩ : ByteArray)] from rfl) (Reps.one (show Kd.M Kd.string _ _ _ (⟨#[48, 120, 52, 54, 49, 49, 54, 56, 54, 48, 49, 56, 52, 50, 55, 51, 56, 55, 57, 48, 53]⟩ : ByteArray) [.string (⟨#[48, 120, 52, 54, 49, 49, 54, 56, 54, 48, 49, 56, 52, 50, 55, 51, 56, 55, 57, 48, 53]⟩ : ByteArray)] from rfl) (Reps.one (show Kd.M Kd.string _ _ _ (⟨#[48, 120, 57, 57, 57, 57, 57, 57, 57, 57, 57, 57, 71, 57]⟩ : ByteArray) [.string (⟨#[48, 120, 57, 57, 57, 57, 57, 57, 57, 57, 57, 57, 71, 57]⟩ : ByteArray)] from rfl) (Reps.none _ _)))))))))))))))))); intro v182 w3 ho4 hb hg_ hnew_; clear hg_ hnew_; (first | rw [← Ny181.out] at ho4 | (simp only [Int.reduceToNat] at ho4; rw [← Ny181.out] at ho4)); have n0_ := Aside0.mk (Kd.R_elder' (by (with_reducible repeat (first | apply Kd.R_alloc | apply Kd.R_drewN | apply Kd.R_drew)); exact HO180.out) (Kd.R_base ho4) hb); have n1_ := Aside0.mk (Kd.R_lower (Kd.R_new' ho4 (Kd.R_lt (by (with_reducible repeat (first | apply Kd.R_alloc | apply Kd.R_drewN | apply Kd.R_drew)); exact HO180.out))) (below_size (bh_ HB))); have n2_ := bs_ HB hb; clear HO180; clear HB; have HO180 := n0_; have HO183 := n1_; have HB := n2_; clear n0_ n1_ n2_; clear hb ho4))
 go_loopg [3] k (fun kq v3 w' => ∃ (x3_1 : Int), v3 = .int .i64 x3_1 ∧ Aside0 (salvorlaw2_NumEdge.l0 kq y178 y181 x3_1 = some r) ∧ Aside0 (kq ≤ k) ∧ Aside0 (Kd.R Kd.string 9 w' w.heap.size (fun k_ => some k_ ≠ (v182 : Value).ownBlock) v179 y178) ∧ Aside0 (Kd.R Kd.string 9 w' w.heap.size (fun k_ => some k_ ≠ (v179 : Value).ownBlock) v182 y181) ∧ Aside0 (Below w.heap.size w w'))
 case atStart => exact ⟨(0), (by first | rfl | (simp; done) | (simp [*]; done)), H', ⟨Nat.le_refl _⟩, ⟨by (with_reducible repeat (first | apply Kd.R_alloc | apply Kd.R_drewN | apply Kd.R_drew)); exact Kd.R_mono HO180.out (fun _ hk => hk.2)⟩, ⟨by (with_reducible repeat (first | apply Kd.R_alloc | apply Kd.R_drewN | apply Kd.R_drew)); exact Kd.R_mono HO183.out (fun _ hk => hk.2)⟩, ⟨bh_ HB⟩⟩
 case round =>
  clear H'
  try clear p2
  obtain ⟨x3_1, rfl, HA, HK1, HO_1, HO_2, HB⟩ := hrel
  cases gk with
  | zero => exact absurd HA.out (by simp [salvorlaw2_NumEdge.l0])
  | succ k1 =>
   have H := HA.out
   clear HA
   simp only [salvorlaw2_NumEdge.l0] at H
   by_cases c5 : x3_1 < (y178.length : Int)
   ·rw [if_pos c5] at H
    have c5b0 : decide (x3_1 < (y178.length : Int)) = true := decide_eq_true c5
    clear c5
    by_cases c6 : 0 ≤ x3_1
    ·rw [if_pos c6] at H
     have c6b0 : decide (0 ≤ x3_1) = true := decide_eq_true c6
     clear c6
     replace H := Option.bind_eq_some_iff.mp H
     obtain ⟨⟨t185, t186⟩, A70, H⟩ := H
     replace H : (if t186 = true then (salvorlaw2_NumEdge.l0 k1 y178 y181 (wrap64 (x3_1 + 1))) else (some false)) = some r := H
     have A7 := Aside0.mk A70
     clear A70
     by_cases c8 : t186 = true
     ·subst c8
      have H1 : (salvorlaw2_NumEdge.l0 k1 y178 y181 (wrap64 (x3_1 + 1))) = some r := by rw [if_pos rfl] at H; exact H
      clear H
      have H := H1
      clear H1
      have H' := Aside0.mk H
      clear H
      obtain ⟨Ao9, co9, eo9⟩ := Kd.R_slice HO_1.out
      subst eo9
      have p184 : 0 ≤ (x3_1 : Int) := of_decide_eq_true (by first | (with_reducible assumption) | assumption)
      have q184 : x3_1 < (y178.length : Int) := of_decide_eq_true (by first | (with_reducible assumption) | assumption)
      obtain ⟨ad184, e184, hx184_0⟩ := Kd.at_string (Kd.R_reads' HO_1.out).2.2 x3_1 p184 q184
      cases e184
      replace p184 := eq_true p184
      replace q184 := eq_true q184
      go_wp2_with (first | ((with_reducible refine gate_callee (f := 9) rfl ?_); refine gl_ (some 30) rfl rfl Tryd.func9 (by kernel_rfl) rfl #[.string (rdOf ByteArray.empty y178 x3_1)] rfl ?_; (with_reducible refine (num_Get.calls k1 (rdOf ByteArray.empty y178 x3_1) t185 true _ A7.out ?tb0_).mono ?_); (case tb0_ => exact tb_ HTAB HB); rintro e w10 ⟨rfl, hb⟩; refine ⟨_, rfl, ?_⟩; have n0_ := Aside0.mk (Kd.R_below (by (with_reducible repeat (first | apply Kd.R_alloc | apply Kd.R_drewN | apply Kd.R_drew)); exact HO_1.out) hb); have n1_ := Aside0.mk (Kd.R_below (by (with_reducible repeat (first | apply Kd.R_alloc | apply Kd.R_drewN | apply Kd.R_drew)); exact HO_2.out) hb); have n2_ := bs_ HB hb; clear HO_1; clear HO_2; clear HB; have HO_1 := n0_; have HO_2 := n1_; have HB := n2_; clear n0_ n1_ n2_; (try clear hb)))
      go_roundg k1
      case measure => have := HK1.out; omega
      case rel => exact ⟨(wrap64 (x3_1 + 1)), (by first | rfl | (simp; done) | (simp [*]; done)), H', ⟨by have := HK1.out; omega⟩, ⟨by (with_reducible repeat (first | apply Kd.R_alloc | apply Kd.R_drewN | apply Kd.R_drew)); exact HO_1.out⟩, ⟨by (with_reducible repeat (first | apply Kd.R_alloc | apply Kd.R_drewN | apply Kd.R_drew)); exact HO_2.out⟩, ⟨bh_ HB⟩⟩
     ·replace c8 := Bool.eq_false_iff.mpr c8
      subst c8
      have H1 : (some false) = some r := by rw [if_neg (show ¬ (false = true) by decide)] at H; exact H
      clear H
      have H := H1
      clear H1
      exact absurd ((Option.some.inj H).trans HT.out) (by simp)
    ·rw [if_neg c6] at H
     exact absurd H (by simp)
   ·rw [if_neg c5] at H
    have c5b0 : decide (x3_1 < (y178.length : Int)) = false := decide_eq_false c5
    clear c5
    have H' := Aside0.mk H
    clear H
    obtain ⟨Ao11, co11, eo11⟩ := Kd.R_slice HO_1.out
    subst eo11
    go_wp2
    go_loopg [6] k1 (fun kq v6 w' => ∃ (x6_2 : Int), v6 = .int .i64 x6_2 ∧ Aside0 (salvorlaw2_NumEdge.l1 kq y181 x6_2 = some r) ∧ Aside0 (kq ≤ k1) ∧ Aside0 (Kd.R Kd.string 9 w' w.heap.size (fun _ => True) v182 y181) ∧ Aside0 (Below w.heap.size w w'))
    case atStart => exact ⟨(0), (by first | rfl | (simp; done) | (simp [*]; done)), H', ⟨Nat.le_refl _⟩, ⟨by (with_reducible repeat (first | apply Kd.R_alloc | apply Kd.R_drewN | apply Kd.R_drew)); exact Kd.R_mono HO_2.out (fun _ hk => trivial)⟩, ⟨bh_ HB⟩⟩
    case round =>
     clear H'
     try clear p1
     try clear q1
     try clear hx1
     try clear p2
     try clear c5
     try clear c5b0
     try clear c6
     try clear c6b0
     try clear p6
     try clear c8
     try clear c9
     try clear hx184_0
     try clear p184
     try clear p2
     try clear q184
     obtain ⟨x6_2, rfl, HA, HK2, HO_2, HB⟩ := hrel
     cases gk with
     | zero => exact absurd HA.out (by simp [salvorlaw2_NumEdge.l1])
     | succ k2 =>
      have H := HA.out
      clear HA
      simp only [salvorlaw2_NumEdge.l1] at H
      by_cases c12 : x6_2 < (y181.length : Int)
      ·rw [if_pos c12] at H
       have c12b0 : decide (x6_2 < (y181.length : Int)) = true := decide_eq_true c12
       clear c12
       by_cases c13 : 0 ≤ x6_2
       ·rw [if_pos c13] at H
        have c13b0 : decide (0 ≤ x6_2) = true := decide_eq_true c13
        clear c13
        replace H := Option.bind_eq_some_iff.mp H
        obtain ⟨⟨t188, t189⟩, A140, H⟩ := H
        replace H : (if t189 = true then (some false) else (salvorlaw2_NumEdge.l1 k2 y181 (wrap64 (x6_2 + 1)))) = some r := H
        have A14 := Aside0.mk A140
        clear A140
        by_cases c15 : t189 = true
        ·subst c15
         have H1 : (some false) = some r := by rw [if_pos rfl] at H; exact H
         clear H
         have H := H1
         clear H1
         exact absurd ((Option.some.inj H).trans HT.out) (by simp)
        ·replace c15 := Bool.eq_false_iff.mpr c15
         subst c15
         have H1 : (salvorlaw2_NumEdge.l1 k2 y181 (wrap64 (x6_2 + 1))) = some r := by rw [if_neg (show ¬ (false = true) by decide)] at H; exact H
         clear H
         have H := H1
         clear H1
         have H' := Aside0.mk H
         clear H
         obtain ⟨Ao16, co16, eo16⟩ := Kd.R_slice HO_2.out
         subst eo16
         have p187 : 0 ≤ (x6_2 : Int) := of_decide_eq_true (by first | (with_reducible assumption) | assumption)
         have q187 : x6_2 < (y181.length : Int) := of_decide_eq_true (by first | (with_reducible assumption) | assumption)
         obtain ⟨ad187, e187, hx187_0⟩ := Kd.at_string (Kd.R_reads' HO_2.out).2.2 x6_2 p187 q187
         cases e187
         replace p187 := eq_true p187
         replace q187 := eq_true q187
         go_wp2_with (first | ((with_reducible refine gate_callee (f := 9) rfl ?_); refine gl_ (some 46) rfl rfl Tryd.func9 (by kernel_rfl) rfl #[.string (rdOf ByteArray.empty y181 x6_2)] rfl ?_; (with_reducible refine (num_Get.calls k2 (rdOf ByteArray.empty y181 x6_2) t188 false _ A14.out ?tb2_).mono ?_); (case tb2_ => exact tb_ HTAB HB); rintro e w17 ⟨rfl, hb⟩; refine ⟨_, rfl, ?_⟩; have n0_ := Aside0.mk (Kd.R_below (by (with_reducible repeat (first | apply Kd.R_alloc | apply Kd.R_drewN | apply Kd.R_drew)); exact HO_2.out) hb); have n1_ := bs_ HB hb; clear HO_2; clear HB; have HO_2 := n0_; have HB := n1_; clear n0_ n1_; (try clear hb)))
         go_roundg k2
         case measure => have := HK1.out; have := HK2.out; omega
         case rel => exact ⟨(wrap64 (x6_2 + 1)), (by first | rfl | (simp; done) | (simp [*]; done)), H', ⟨by have := HK1.out; have := HK2.out; omega⟩, ⟨by (with_reducible repeat (first | apply Kd.R_alloc | apply Kd.R_drewN | apply Kd.R_drew)); exact HO_2.out⟩, ⟨bh_ HB⟩⟩
       ·rw [if_neg c13] at H
        exact absurd H (by simp)
      ·rw [if_neg c12] at H
       have c12b0 : decide (x6_2 < (y181.length : Int)) = false := decide_eq_false c12
       clear c12
       replace H := Option.bind_eq_some_iff.mp H
       obtain ⟨⟨t190, t191⟩, A180, H⟩ := H
       replace H : ((num_GetHex.f (⟨#[48, 120, 52, 48, 48, 48, 48, 48, 48, 48, 48, 48, 48, 48, 48, 48, 48, 49]⟩ : ByteArray)).bind fun bt192 => ((num_GetHex.f (⟨#[48, 120, 48, 48, 48, 48, 48, 48, 48, 48, 48, 48, 48, 48, 48, 48, 48, 48, 49]⟩ : ByteArray)).bind fun bt194 => ((num_GetHex.f (⟨#[48, 120]⟩ : ByteArray)).bind fun bt196 => (if t190 = 4611686018427387904 then (if t191 = true then (if bt192.2 = true then (some false) else (if bt194.2 = true then (some false) else (if bt196.2 = true then (some false) else ((salvorlaw2_NumRuns.f k2).bind fun t198 => (some t198))))) else (some false)) else (some false))))) = some r := H
       have A18 := Aside0.mk A180
       clear A180
       replace H := Option.bind_eq_some_iff.mp H
       obtain ⟨⟨t192, t193⟩, A190, H⟩ := H
       replace H : ((num_GetHex.f (⟨#[48, 120, 48, 48, 48, 48, 48, 48, 48, 48, 48, 48, 48, 48, 48, 48, 48, 48, 49]⟩ : ByteArray)).bind fun bt194 => ((num_GetHex.f (⟨#[48, 120]⟩ : ByteArray)).bind fun bt196 => (if t190 = 4611686018427387904 then (if t191 = true then (if t193 = true then (some false) else (if bt194.2 = true then (some false) else (if bt196.2 = true then (some false) else ((salvorlaw2_NumRuns.f k2).bind fun t198 => (some t198))))) else (some false)) else (some false)))) = some r := H
       have A19 := Aside0.mk A190
       clear A190
       replace H := Option.bind_eq_some_iff.mp H
       obtain ⟨⟨t194, t195⟩, A200, H⟩ := H
       replace H : ((num_GetHex.f (⟨#[48, 120]⟩ : ByteArray)).bind fun bt196 => (if t190 = 4611686018427387904 then (if t191 = true then (if t193 = true then (some false) else (if t195 = true then (some false) else (if bt196.2 = true then (some false) else ((salvorlaw2_NumRuns.f k2).bind fun t198 => (some t198))))) else (some false)) else (some false))) = some r := H
       have A20 := Aside0.mk A200
       clear A200
       replace H := Option.bind_eq_some_iff.mp H
       obtain ⟨⟨t196, t197⟩, A210, H⟩ := H
       replace H : (if t190 = 4611686018427387904 then (if t191 = true then (if t193 = true then (some false) else (if t195 = true then (some false) else (if t197 = true then (some false) else ((salvorlaw2_NumRuns.f k2).bind fun t198 => (some t198))))) else (some false)) else (some false)) = some r := H
       have A21 := Aside0.mk A210
       clear A210
       by_cases c22 : t190 = 4611686018427387904
       ·rw [if_pos c22] at H
        have c22b0 : (t190 == 4611686018427387904) = true := beq_iff_eq.mpr c22
        have c22b1 : (t190 != 4611686018427387904) = false := bne_eq_false_iff_eq.mpr c22
        clear c22
        by_cases c23 : t191 = true
        ·subst c23
         have H1 : (if t193 = true then (some false) else (if t195 = true then (some false) else (if t197 = true then (some false) else ((salvorlaw2_NumRuns.f k2).bind fun t198 => (some t198))))) = some r := by rw [if_pos rfl] at H; exact H
         clear H
         have H := H1
         clear H1
         by_cases c24 : t193 = true
         ·subst c24
          have H1 : (some false) = some r := by rw [if_pos rfl] at H; exact H
          clear H
          have H := H1
          clear H1
          exact absurd ((Option.some.inj H).trans HT.out) (by simp)
         ·replace c24 := Bool.eq_false_iff.mpr c24
          subst c24
          have H1 : (if t195 = true then (some false) else (if t197 = true then (some false) else ((salvorlaw2_NumRuns.f k2).bind fun t198 => (some t198)))) = some r := by rw [if_neg (show ¬ (false = true) by decide)] at H; exact H
          clear H
          have H := H1
          clear H1
          by_cases c25 : t195 = true
          ·subst c25
           have H1 : (some false) = some r := by rw [if_pos rfl] at H; exact H
           clear H
           have H := H1
           clear H1
           exact absurd ((Option.some.inj H).trans HT.out) (by simp)
          ·replace c25 := Bool.eq_false_iff.mpr c25
           subst c25
           have H1 : (if t197 = true then (some false) else ((salvorlaw2_NumRuns.f k2).bind fun t198 => (some t198))) = some r := by rw [if_neg (show ¬ (false = true) by decide)] at H; exact H
           clear H
           have H := H1
           clear H1
           by_cases c26 : t197 = true
           ·subst c26
            have H1 : (some false) = some r := by rw [if_pos rfl] at H; exact H
            clear H
            have H := H1
            clear H1
            exact absurd ((Option.some.inj H).trans HT.out) (by simp)
           ·replace c26 := Bool.eq_false_iff.mpr c26
            subst c26
            have H1 : ((salvorlaw2_NumRuns.f k2).bind fun t198 => (some t198)) = some r := by rw [if_neg (show ¬ (false = true) by decide)] at H; exact H
            clear H
            have H := H1
            clear H1
            replace H := Option.bind_eq_some_iff.mp H
            obtain ⟨t198, A270, H⟩ := H
            replace H : (some t198) = some r := H
            have A27 := Aside0.mk A270
            clear A270
            obtain rfl := Option.some.inj H
            obtain ⟨Ao28, co28, eo28⟩ := Kd.R_slice HO_2.out
            subst eo28
            go_wp2_with (first | ((with_reducible refine gate_callee (f := 10) rfl ?_); refine gl_ (some 51) rfl rfl Tryd.func10 (by kernel_rfl) rfl #[.string (⟨#[48, 120, 52, 48, 48, 48, 48, 48, 48, 48, 48, 48, 48, 48, 48, 48, 48, 48]⟩ : ByteArray)] rfl ?_; (with_reducible refine (num_GetHex.calls (⟨#[48, 120, 52, 48, 48, 48, 48, 48, 48, 48, 48, 48, 48, 48, 48, 48, 48, 48]⟩ : ByteArray) t190 true _ A18.out ?tb4_).mono ?_); (case tb4_ => exact tb_ HTAB HB); rintro e w29 ⟨rfl, hb⟩; refine ⟨_, rfl, ?_⟩; have n0_ := Aside0.mk (Kd.R_below (by (with_reducible repeat (first | apply Kd.R_alloc | apply Kd.R_drewN | apply Kd.R_drew)); exact HO_2.out) hb); have n1_ := bs_ HB hb; clear HO_2; clear HB; have HO_2 := n0_; have HB := n1_; clear n0_ n1_; (try clear hb)) | ((with_reducible refine gate_callee (f := 10) rfl ?_); refine gl_ (some 55) rfl rfl Tryd.func10 (by kernel_rfl) rfl #[.string (⟨#[48, 120, 52, 48, 48, 48, 48, 48, 48, 48, 48, 48, 48, 48, 48, 48, 48, 49]⟩ : ByteArray)] rfl ?_; (with_reducible refine (num_GetHex.calls (⟨#[48, 120, 52, 48, 48, 48, 48, 48, 48, 48, 48, 48, 48, 48, 48, 48, 48, 49]⟩ : ByteArray) t192 false _ A19.out ?tb6_).mono ?_); (case tb6_ => exact tb_ HTAB HB); rintro e w30 ⟨rfl, hb⟩; refine ⟨_, rfl, ?_⟩; have n0_ := Aside0.mk (Kd.R_below (by (with_reducible repeat (first | apply Kd.R_alloc | apply Kd.R_drewN | apply Kd.R_drew)); exact HO_2.out) hb); have n1_ := bs_ HB hb; clear HO_2; clear HB; have HO_2 := n0_; have HB := n1_; clear n0_ n1_; (try clear hb)) | ((with_reducible refine gate_callee (f := 10) rfl ?_); refine gl_ (some 59) rfl rfl Tryd.func10 (by kernel_rfl) rfl #[.string (⟨#[48, 120, 48, 48, 48, 48, 48, 48, 48, 48, 48, 48, 48, 48, 48, 48, 48, 48, 49]⟩ : ByteArray)] rfl ?_; (with_reducible refine (num_GetHex.calls (⟨#[48, 120, 48, 48, 48, 48, 48, 48, 48, 48, 48, 48, 48, 48, 48, 48, 48, 48, 49]⟩ : ByteArray) t194 false _ A20.out ?tb8_).mono ?_); (case tb8_ => exact tb_ HTAB HB); rintro e w31 ⟨rfl, hb⟩; refine ⟨_, rfl, ?_⟩; have n0_ := Aside0.mk (Kd.R_below (by (with_reducible repeat (first | apply Kd.R_alloc | apply Kd.R_drewN | apply Kd.R_drew)); exact HO_2.out) hb); have n1_ := bs_ HB hb; clear HO_2; clear HB; have HO_2 := n0_; have HB := n1_; clear n0_ n1_; (try clear hb)) | ((with_reducible refine gate_callee (f := 10) rfl ?_); refine gl_ (some 63) rfl rfl Tryd.func10 (by kernel_rfl) rfl #[.string (⟨#[48, 120]⟩ : ByteArray)] rfl ?_; (with_reducible refine (num_GetHex.calls (⟨#[48, 120]⟩ : ByteArray) t196 false _ A21.out ?tb10_).mono ?_); (case tb10_ => exact tb_ HTAB HB); rintro e w32 ⟨rfl, hb⟩; refine ⟨_, rfl, ?_⟩; have n0_ := Aside0.mk (Kd.R_below (by (with_reducible repeat (first | apply Kd.R_alloc | apply Kd.R_drewN | apply Kd.R_drew)); exact HO_2.out) hb); have n1_ := bs_ HB hb; clear HO_2; clear HB; have HO_2 := n0_; have HB := n1_; clear n0_ n1_; (try clear hb)) | (go_at_call 3; (with_reducible refine (salvorlaw2_NumRuns.calls k2  t198 _ A27.out ?tb12_).mono ?_); (case tb12_ => exact tb_ HTAB HB); rintro e w33 ⟨rfl, hb⟩; have n0_ := Aside0.mk (Kd.R_below (by (with_reducible repeat (first | apply Kd.R_alloc | apply Kd.R_drewN | apply Kd.R_drew)); exact HO_2.out) hb); have n1_ := bs_ HB hb; clear HO_2; clear HB; have HO_2 := n0_; have HB := n1_; clear n0_ n1_; (try clear hb)))
            go_ret
            exact ⟨by first | rfl | (simp [errW_none, errW_some] <;> rfl) | (simp [*, errW_none, errW_some] <;> rfl), bh_ HB⟩
        ·replace c23 := Bool.eq_false_iff.mpr c23
         subst c23
         have H1 : (some false) = some r := by rw [if_neg (show ¬ (false = true) by decide)] at H; exact H
         clear H
         have H := H1
         clear H1
         exact absurd ((Option.some.inj H).trans HT.out) (by simp)
       ·rw [if_neg c22] at H
        have c22b0 : (t190 == 4611686018427387904) = false := beq_eq_false_iff_ne.mpr c22
        have c22b1 : (t190 != 4611686018427387904) = true := bne_iff_ne.mpr c22
        exact absurd ((Option.some.inj H).trans HT.out) (by simp)

end Go.Proofs.YtalcenfcknmchaaDoor.P
