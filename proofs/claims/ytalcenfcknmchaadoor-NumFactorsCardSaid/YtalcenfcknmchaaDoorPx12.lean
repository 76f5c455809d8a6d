/- Laid by a program of this session's own (wip/wprint.py, over the kit's print.py): functions of the given program as plain Lean functions, and that the program's calls come to their answers. -/
import Derived.Test.YtalcenfcknmchaaDoorPx0
import Derived.Test.YtalcenfcknmchaaDoorPx4
import Derived.Test.YtalcenfcknmchaaDoorPx8
import Derived.Test.YtalcenfcknmchaaDoorPx11
namespace Go.Proofs.YtalcenfcknmchaaDoor.P
open Go.RowKit Go.Proofs.YtalcenfcknmchaaDoorW.PrintWords Go.Proofs.YtalcenfcknmchaaDoorW.PrintLast Go.Proofs.YtalcenfcknmchaaDoorW.PrintMore
attribute [local go_sem] max2_int min2_int max_two min_two max_three min_three max_four min_four   -- for this text's walks alone
set_option linter.unusedVariables false
set_option linter.unusedSimpArgs false

/-! ### num_Dec: function 12 -/
def num_Dec.f (a0 : Int) : Option (ByteArray) := (strconv_Itoa_29.f a0).bind fun t130 => (some t130)
set_option maxHeartbeats 8000000 in
set_option maxRecDepth 100000 in
theorem num_Dec.calls (a0 : Int) (r : ByteArray) (w : World) (h : num_Dec.f a0 = some r) (htab : TabAt w) :
    Calls Tryd.prog 12 #[.int .i64 a0] w fun e w' => e = .returned (.string r) ∧ Below w.heap.size w w' := by
  have HTAB := Aside0.mk htab
  clear htab
  have HB := Aside0.mk (Below.refl w.heap.size w)
  have H : ((strconv_Itoa_29.f a0).bind fun t130 => (some t130)) = some r := h
  clear h
  replace H := Option.bind_eq_some_iff.mp H
  obtain ⟨t130, A20, H⟩ := H
  replace H : (some t130) = some r := H
  have A2 := Aside0.mk A20
  clear A20
  obtain rfl := Option.some.inj H
  go_enter Tryd.func12, Tryd.ntmps12
  go_wp2_with (first | ((with_reducible refine gate_callee (f := 29) rfl ?_); refine gl_ (some 4) rfl rfl Tryd.func29 (by kernel_rfl) rfl #[.int .i64 a0] rfl ?_; (with_reducible refine (strconv_Itoa_29.calls a0 t130 _ A2.out ?tb0_).mono ?_); (case tb0_ => exact tb_ HTAB HB); rintro e w3 ⟨rfl, hb⟩; refine ⟨_, rfl, ?_⟩; replace HB := bs_ HB hb; (try clear hb)))
  go_ret
  exact ⟨by first | rfl | (simp [errW_none, errW_some] <;> rfl) | (simp [*, errW_none, errW_some] <;> rfl), bh_ HB⟩

/-! ### salvorlaw2_NumRuns: function 3 -/
def salvorlaw2_NumRuns.g (k : Nat)  : Option (Bool) := (num_Get.f k (⟨#[50, 120, 51, 107]⟩ : ByteArray)).bind fun bt131 => ((num_GetHex.f (⟨#[48, 120, 49, 102]⟩ : ByteArray)).bind fun bt133 => (if bt131.1 = 6144 then (if bt131.2 = true then ((num_Hex.f 255).bind fun t135 => (if t135.toList = ([48, 120, 48, 48, 48, 48, 48, 48, 70, 70] : List UInt8) then ((num_Dec.f (-7)).bind fun t136 => (if t136.toList = ([45, 55] : List UInt8) then (if bt133.1 = 31 then (some bt133.2) else (some false)) else (some false))) else (some false))) else (some false)) else (some false)))
theorem salvorlaw2_NumRuns.gmono : ∀ k, LeO (salvorlaw2_NumRuns.g k ) (salvorlaw2_NumRuns.g (k + 1) ) := by
 intro  k
 unfold salvorlaw2_NumRuns.g
 repeat' first
   | (with_reducible exact num_Get.mono _ _)
   | (with_reducible exact LeO.refl _)
   | (with_reducible exact LeO.none _)
   | (with_reducible refine LeO.ite ?_ ?_)
   | (with_reducible refine LeO.bind ?_ (fun _ => ?_))
   | exact num_Get.mono _ _
   | exact LeO.none _
   | refine LeO.ite ?_ ?_
   | refine LeO.bind ?_ (fun _ => ?_)
set_option maxHeartbeats 8000000 in
set_option maxRecDepth 100000 in
theorem salvorlaw2_NumRuns.callsT (k : Nat)  (r : Bool) (w : World) (h : salvorlaw2_NumRuns.g k  = some r) (htab : TabAt w) (hrt : r = true) :
  Calls Tryd.prog 3 #[] w fun e w' => e = .returned (.bool r) ∧ Below w.heap.size w w' := by
 have HT := Aside0.mk hrt
 clear hrt
 have HTAB := Aside0.mk htab
 clear htab
 have HB := Aside0.mk (Below.refl w.heap.size w)
 have H : ((num_Get.f k (⟨#[50, 120, 51, 107]⟩ : ByteArray)).bind fun bt131 => ((num_GetHex.f (⟨#[48, 120, 49, 102]⟩ : ByteArray)).bind fun bt133 => (if bt131.1 = 6144 then (if bt131.2 = true then ((num_Hex.f 255).bind fun t135 => (if t135.toList = ([48, 120, 48, 48, 48, 48, 48, 48, 70, 70] : List UInt8) then ((num_Dec.f (-7)).bind fun t136 => (if t136.toList = ([45, 55] : List UInt8) then (if bt133.1 = 31 then (some bt133.2) else (some false)) else (some false))) else (some false))) else (some false)) else (some false)))) = some r := h
 clear h
 replace H := Option.bind_eq_some_iff.mp H
 obtain ⟨⟨t131, t132⟩, A10, H⟩ := H
 replace H : ((num_GetHex.f (⟨#[48, 120, 49, 102]⟩ : ByteArray)).bind fun bt133 => (if t131 = 6144 then (if t132 = true then ((num_Hex.f 255).bind fun t135 => (if t135.toList = ([48, 120, 48, 48, 48, 48, 48, 48, 70, 70] : List UInt8) then ((num_Dec.f (-7)).bind fun t136 => (if t136.toList = ([45, 55] : List UInt8) then (if bt133.1 = 31 then (some bt133.2) else (some false)) else (some false))) else (some false))) else (some false)) else (some false))) = some r := H
 have A1 := Aside0.mk A10
 clear A10
 replace H := Option.bind_eq_some_iff.mp H
 obtain ⟨⟨t133, t134⟩, A20, H⟩ := H
 replace H : (if t131 = 6144 then (if t132 = true then ((num_Hex.f 255).bind fun t135 => (if t135.toList = ([48, 120, 48, 48, 48, 48, 48, 48, 70, 70] : List UInt8) then ((num_Dec.f (-7)).bind fun t136 => (if t136.toList = ([45, 55] : List UInt8) then (if t133 = 31 then (some t134) else (some false)) else (some false))) else (some false))) else (some false)) else (some false)) = some r := H
 have A2 := Aside0.mk A20
 clear A20
 by_cases c3 : t131 = 6144
 ·rw [if_pos c3] at H
  have c3b0 : (t131 == 6144) = true := beq_iff_eq.mpr c3
  have c3b1 : (t131 != 6144) = false := bne_eq_false_iff_eq.mpr c3
  clear c3
  by_cases c4 : t132 = true
  ·subst c4
   have H1 : ((num_Hex.f 255).bind fun t135 => (if t135.toList = ([48, 120, 48, 48, 48, 48, 48, 48, 70, 70] : List UInt8) then ((num_Dec.f (-7)).bind fun t136 => (if t136.toList = ([45, 55] : List UInt8) then (if t133 = 31 then (some t134) else (some false)) else (some false))) else (some false))) = some r := by rw [if_pos rfl] at H; exact H
   clear H
   have H := H1
   clear H1
   replace H := Option.bind_eq_some_iff.mp H
   obtain ⟨t135, A50, H⟩ := H
   replace H : (if t135.toList = ([48, 120, 48, 48, 48, 48, 48, 48, 70, 70] : List UInt8) then ((num_Dec.f (-7)).bind fun t136 => (if t136.toList = ([45, 55] : List UInt8) then (if t133 = 31 then (some t134) else (some false)) else (some false))) else (some false)) = some r := H
   have A5 := Aside0.mk A50
   clear A50
   by_cases c6 : t135.toList = ([48, 120, 48, 48, 48, 48, 48, 48, 70, 70] : List UInt8)
   ·rw [if_pos c6] at H
    have c6b0 : (t135.toList == ([48, 120, 48, 48, 48, 48, 48, 48, 70, 70] : List UInt8)) = true := beq_iff_eq.mpr c6
    have c6b1 : (t135.toList != ([48, 120, 48, 48, 48, 48, 48, 48, 70, 70] : List UInt8)) = false := bne_eq_false_iff_eq.mpr c6
    clear c6
    replace H := Option.bind_eq_some_iff.mp H
    obtain ⟨t136, A70, H⟩ := H
    replace H : (if t136.toList = ([45, 55] : List UInt8) then (if t133 = 31 then (some t134) else (some false)) else (some false)) = some r := H
    have A7 := Aside0.mk A70
    clear A70
    by_cases c8 : t136.toList = ([45, 55] : List UInt8)
    ·rw [if_pos c8] at H
     have c8b0 : (t136.toList == ([45, 55] : List UInt8)) = true := beq_iff_eq.mpr c8
     have c8b1 : (t136.toList != ([45, 55] : List UInt8)) = false := bne_eq_false_iff_eq.mpr c8
     clear c8
     by_cases c9 : t133 = 31
     ·rw [if_pos c9] at H
      have c9b0 : (t133 == 31) = true := beq_iff_eq.mpr c9
      have c9b1 : (t133 != 31) = false := bne_eq_false_iff_eq.mpr c9
      clear c9
      obtain rfl := Option.some.inj H
      go_enter Tryd.func3, Tryd.ntmps3
      go_wp2_with (first | ((with_reducible refine gate_callee (f := 9) rfl ?_); refine gl_ (some 6) rfl rfl Tryd.func9 (by kernel_rfl) rfl #[.string (⟨#[50, 120, 51, 107]⟩ : ByteArray)] rfl ?_; (with_reducible refine (num_Get.calls k (⟨#[50, 120, 51, 107]⟩ : ByteArray) t131 true _ A1.out ?tb0_).mono ?_); (case tb0_ => exact tb_ HTAB HB); rintro e w10 ⟨rfl, hb⟩; refine ⟨_, rfl, ?_⟩; replace HB := bs_ HB hb; (try clear hb)) | ((with_reducible refine gate_callee (f := 10) rfl ?_); refine gl_ (some 10) rfl rfl Tryd.func10 (by kernel_rfl) rfl #[.string (⟨#[48, 120, 49, 102]⟩ : ByteArray)] rfl ?_; (with_reducible refine (num_GetHex.calls (⟨#[48, 120, 49, 102]⟩ : ByteArray) t133 t134 _ A2.out ?tb2_).mono ?_); (case tb2_ => exact tb_ HTAB HB); rintro e w11 ⟨rfl, hb⟩; refine ⟨_, rfl, ?_⟩; replace HB := bs_ HB hb; (try clear hb)) | (go_at_call 11; (with_reducible refine (num_Hex.calls 255 t135 _ A5.out ?tb4_).mono ?_); (case tb4_ => exact tb_ HTAB HB); rintro e w12 ⟨rfl, hb⟩; replace HB := bs_ HB hb; (try clear hb)) | (go_at_call 12; (with_reducible refine (num_Dec.calls (-7) t136 _ A7.out ?tb6_).mono ?_); (case tb6_ => exact tb_ HTAB HB); rintro e w13 ⟨rfl, hb⟩; replace HB := bs_ HB hb; (try clear hb)))
      go_ret
      exact ⟨by first | rfl | (simp [errW_none, errW_some] <;> rfl) | (simp [*, errW_none, errW_some] <;> rfl), bh_ HB⟩
     ·rw [if_neg c9] at H
      have c9b0 : (t133 == 31) = false := beq_eq_false_iff_ne.mpr c9
      have c9b1 : (t133 != 31) = true := bne_iff_ne.mpr c9
      exact absurd ((Option.some.inj H).trans HT.out) (by simp)
    ·rw [if_neg c8] at H
     have c8b0 : (t136.toList == ([45, 55] : List UInt8)) = false := beq_eq_false_iff_ne.mpr c8
     have c8b1 : (t136.toList != ([45, 55] : List UInt8)) = true := bne_iff_ne.mpr c8
     exact absurd ((Option.some.inj H).trans HT.out) (by simp)
   ·rw [if_neg c6] at H
    have c6b0 : (t135.toList == ([48, 120, 48, 48, 48, 48, 48, 48, 70, 70] : List UInt8)) = false := beq_eq_false_iff_ne.mpr c6
    have c6b1 : (t135.toList != ([48, 120, 48, 48, 48, 48, 48, 48, 70, 70] : List UInt8)) = true := bne_iff_ne.mpr c6
    exact absurd ((Option.some.inj H).trans HT.out) (by simp)
  ·replace c4 := Bool.eq_false_iff.mpr c4
   subst c4
   have H1 : (some false) = some r := by rw [if_neg (show ¬ (false = true) by decide)] at H; exact H
   clear H
   have H := H1
   clear H1
   exact absurd ((Option.some.inj H).trans HT.out) (by simp)
 ·rw [if_neg c3] at H
  have c3b0 : (t131 == 6144) = false := beq_eq_false_iff_ne.mpr c3
  have c3b1 : (t131 != 6144) = true := bne_iff_ne.mpr c3
  exact absurd ((Option.some.inj H).trans HT.out) (by simp)
def salvorlaw2_NumRuns.f (k : Nat) : Option (Bool) := (salvorlaw2_NumRuns.g k).bind fun b => if b = true then some true else none
theorem salvorlaw2_NumRuns.mono : ∀ k, LeO (salvorlaw2_NumRuns.f k) (salvorlaw2_NumRuns.f (k + 1)) := fun k => LeO.bind (salvorlaw2_NumRuns.gmono k) (fun _ => LeO.refl _)
theorem salvorlaw2_NumRuns.calls (k : Nat) (r : Bool) (w : World) (h : salvorlaw2_NumRuns.f k = some r) (htab : TabAt w) : Calls Tryd.prog 3 #[] w fun e w' => e = .returned (.bool r) ∧ Below w.heap.size w w' := by
  obtain ⟨b, hb, h1⟩ := Option.bind_eq_some_iff.mp h
  cases b with
  | false => simp at h1
  | true =>
    rw [if_pos rfl] at h1
    obtain rfl := Option.some.inj h1
    exact salvorlaw2_NumRuns.callsT k true w hb htab rfl

/-! ### salvorlaw2_suffixes: function 13 -/
def salvorlaw2_suffixes.f  : Option (List ByteArray × List Int) := some ((([(⟨#[]⟩ : ByteArray), (⟨#[99]⟩ : ByteArray), (⟨#[119]⟩ : ByteArray), (⟨#[98]⟩ : ByteArray), (⟨#[107, 66]⟩ : ByteArray), (⟨#[107]⟩ : ByteArray), (⟨#[75]⟩ : ByteArray), (⟨#[77, 66]⟩ : ByteArray), (⟨#[77]⟩ : ByteArray), (⟨#[71, 66]⟩ : ByteArray), (⟨#[71]⟩ : ByteArray)] : List ByteArray)), (([1, 1, 2, 512, 1000, 1024, 1024, 1000000, 1048576, 1000000000, 1073741824] : List Int)))
set_option maxHeartbeats 8000000 in
set_option maxRecDepth 100000 in
theorem salvorlaw2_suffixes.calls  (r1 : List ByteArray) (r2 : List Int) (w : World) (h : salvorlaw2_suffixes.f  = some (r1, r2)) :
  Calls Tryd.prog 13 #[] w fun e w' => ∃ v0_ v1_ : Value, e = .returned (.tuple #[v0_, v1_]) ∧ Kd.R Kd.string 9 w' w.heap.size (fun _ => True) v0_ r1 ∧ Kd.R (Kd.int .i64) 3 w' w.heap.size (fun _ => True) v1_ r2 ∧ Below w.heap.size w w' := by
 have HB := Aside0.mk (Below.refl w.heap.size w)
 have H : (some ((([(⟨#[]⟩ : ByteArray), (⟨#[99]⟩ : ByteArray), (⟨#[119]⟩ : ByteArray), (⟨#[98]⟩ : ByteArray), (⟨#[107, 66]⟩ : ByteArray), (⟨#[107]⟩ : ByteArray), (⟨#[75]⟩ : ByteArray), (⟨#[77, 66]⟩ : ByteArray), (⟨#[77]⟩ : ByteArray), (⟨#[71, 66]⟩ : ByteArray), (⟨#[71]⟩ : ByteArray)] : List ByteArray)), (([1, 1, 2, 512, 1000, 1024, 1024, 1000000, 1048576, 1000000000, 1073741824] : List Int)))) = some (r1, r2) := h
 clear h
 obtain ⟨y137, hy137⟩ : ∃ y_ : List ByteArray, y_ = (([(⟨#[]⟩ : ByteArray), (⟨#[99]⟩ : ByteArray), (⟨#[119]⟩ : ByteArray), (⟨#[98]⟩ : ByteArray), (⟨#[107, 66]⟩ : ByteArray), (⟨#[107]⟩ : ByteArray), (⟨#[75]⟩ : ByteArray), (⟨#[77, 66]⟩ : ByteArray), (⟨#[77]⟩ : ByteArray), (⟨#[71, 66]⟩ : ByteArray), (⟨#[71]⟩ : ByteArray)] : List ByteArray)) := ⟨_, rfl⟩
 replace H : (some (y137, (([1, 1, 2, 512, 1000, 1024, 1024, 1000000, 1048576, 1000000000, 1073741824] : List Int)))) = some (r1, r2) := by first | (rw [hy137]; with_reducible exact H) | (have H2_ := (Option.bind_some _ _).symm.trans H; rw [hy137]; with_reducible exact H2_) | (have H2_ := (Option.bind_some _ _).symm.trans H; with_reducible exact H2_) | with_reducible exact H | (rw [hy137]; exact H) | exact H
 have Ny137 := Aside0.mk hy137
 clear hy137
 obtain ⟨y140, hy140⟩ : ∃ y_ : List Int, y_ = (([1, 1, 2, 512, 1000, 1024, 1024, 1000000, 1048576, 1000000000, 1073741824] : List Int)) := ⟨_, rfl⟩
 replace H : (some (y137, y140)) = some (r1, r2) := by first | (rw [hy140]; with_reducible exact H) | (have H2_ := (Option.bind_some _ _).symm.trans H; rw [hy140]; with_reducible exact H2_) | (have H2_ := (Option.bind_some _ _).symm.trans H; with_reducible exact H2_) | with_reducible exact H | (rw [hy140]; exact H) | exact H
 have Ny140 := Aside0.mk hy140
 clear hy140
 simp only [Option.some.injEq, Prod.mk.injEq] at H
 obtain ⟨rfl, rfl⟩ := H
 go_enter Tryd.func13, Tryd.ntmps13
 go_wp2_with (first | ((with_reducible refine gate_dst (N := 2) rfl ?_); refine Kd.R_lit Kd.string _ 9 ?hg (N := 2) ?hd (xs := ([(⟨#[]⟩ : ByteArray), (⟨#[99]⟩ : ByteArray), (⟨#[119]⟩ : ByteArray), (⟨#[98]⟩ : ByteArray), (⟨#[107, 66]⟩ : ByteArray), (⟨#[107]⟩ : ByteArray), (⟨#[75]⟩ : ByteArray), (⟨#[77, 66]⟩ : ByteArray), (⟨#[77]⟩ : ByteArray), (⟨#[71, 66]⟩ : ByteArray), (⟨#[71]⟩ : ByteArray)] : List ByteArray)) (inner := [.string (⟨#[]⟩ : ByteArray), .string (⟨#[99]⟩ : ByteArray), .string (⟨#[119]⟩ : ByteArray), .string (⟨#[98]⟩ : ByteArray), .string (⟨#[107, 66]⟩ : ByteArray), .string (⟨#[107]⟩ : ByteArray), .string (⟨#[75]⟩ : ByteArray), .string (⟨#[77, 66]⟩ : ByteArray), .string (⟨#[77]⟩ : ByteArray), .string (⟨#[71, 66]⟩ : ByteArray), .string (⟨#[71]⟩ : ByteArray)]) (ok := fun _ => True) (okp := fun _ => True) ?hr ?hp (fun _ hk => hk) trivial (Below.refl _ _) (Nat.le_refl _) (by simp) ?_; (case hd => rfl); (case hg => rfl); (case hr => first | (go_simp; done) | (go_simp; rfl)); (case hp => exact (Reps.one (show Kd.M Kd.string _ _ _ (⟨#[]⟩ : ByteArray) [.string (⟨#[]⟩ : ByteArray)] from rfl) (Reps.one (show Kd.M Kd.string _ _ _ (⟨#[99]⟩ : ByteArray) [.string (⟨#[99]⟩ : ByteArray)] from rfl) (Reps.one (show Kd.M Kd.string _ _ _ (⟨#[119]⟩ : ByteArray) [.string (⟨#[119]⟩ : ByteArray)] from rfl) (Reps.one (show Kd.M Kd.string _ _ _ (⟨#[98]⟩ : ByteArray) [.string (⟨#[98]⟩ : ByteArray)] from rfl) (Reps.one (show Kd.M Kd.string _ _ _ (⟨#[107, 66]⟩ : ByteArray) [.string (⟨#[107, 66]⟩ : ByteArray)] from rfl) (Reps.one (show Kd.M Kd.string _ _ _ (⟨#[107]⟩ : ByteArray) [.string (⟨#[107]⟩ : ByteArray)] from rfl) (Reps.one (show Kd.M Kd.string _ _ _ (⟨#[75]⟩ : ByteArray) [.string (⟨#[75]⟩ : ByteArray)] from rfl) (Reps.one (show Kd.M Kd.string _ _ _ (⟨#[77, 66]⟩ : ByteArray) [.string (⟨#[77, 66]⟩ : ByteArray)] from rfl) (Reps.one (show Kd.M Kd.string _ _ _ (⟨#[77]⟩ : ByteArray) [.string (⟨#[77]⟩ : ByteArray)] from rfl) (Reps.one (show Kd.M Kd.string _ _ _ (⟨#[71, 66]⟩ : ByteArray) [.string (⟨#[71, 66]⟩ : ByteArray)] from rfl) (Reps.one (show Kd.M Kd.string _ _ _ (⟨#[71]⟩ : ByteArray) [.string (⟨#[71]⟩ : ByteArray)] from rfl) (Reps.none _ _))))))))))))); intro v138 w1 ho2 hb hg_ hnew_; clear hg_ hnew_; (first | rw [← Ny137.out] at ho2 | (simp only [Int.reduceToNat] at ho2; rw [← Ny137.out] at ho2)); have HO139 := Aside0.mk (Kd.R_lower ho2 (below_size (bh_ HB))); replace HB := bs_ HB hb; clear hb ho2) | ((with_reducible refine gate_dst (N := 3) rfl ?_); refine Kd.R_lit (Kd.int .i64) _ 3 ?hg (N := 3) ?hd (xs := ([1, 1, 2, 512, 1000, 1024, 1024, 1000000, 1048576, 1000000000, 1073741824] : List Int)) (inner := [.int .i64 1, .int .i64 1, .int .i64 2, .int .i64 512, .int .i64 1000, .int .i64 1024, .int .i64 1024, .int .i64 1000000, .int .i64 1048576, .int .i64 1000000000, .int .i64 1073741824]) (ok := fun _ => True) (okp := fun _ => True) ?hr ?hp (fun _ hk => hk) trivial (Below.refl _ _) (Nat.le_refl _) (by simp) ?_; (case hd => rfl); (case hg => rfl); (case hr => first | (go_simp; done) | (go_simp; rfl)); (case hp => exact (Reps.one (show Kd.M (Kd.int .i64) _ _ _ 1 [.int .i64 1] from rfl) (Reps.one (show Kd.M (Kd.int .i64) _ _ _ 1 [.int .i64 1] from rfl) (Reps.one (show Kd.M (Kd.int .i64) _ _ _ 2 [.int .i64 2] from rfl) (Reps.one (show Kd.M (Kd.int .i64) _ _ _ 512 [.int .i64 512] from rfl) (Reps.one (show Kd.M (Kd.int .i64) _ _ _ 1000 [.int .i64 1000] from rfl) (Reps.one (show Kd.M (Kd.int .i64) _ _ _ 1024 [.int .i64 1024] from rfl) (Reps.one (show Kd.M (Kd.int .i64) _ _ _ 1024 [.int .i64 1024] from rfl) (Reps.one (show Kd.M (Kd.int .i64) _ _ _ 1000000 [.int .i64 1000000] from rfl) (Reps.one (show Kd.M (Kd.int .i64) _ _ _ 1048576 [.int .i64 1048576] from rfl) (Reps.one (show Kd.M (Kd.int .i64) _ _ _ 1000000000 [.int .i64 1000000000] from rfl) (Reps.one (show Kd.M (Kd.int .i64) _ _ _ 1073741824 [.int .i64 1073741824] from rfl) (Reps.none _ _))))))))))))); intro v141 w3 ho4 hb hg_ hnew_; clear hg_ hnew_; (first | rw [← Ny140.out] at ho4 | (simp only [Int.reduceToNat] at ho4; rw [← Ny140.out] at ho4)); have n0_ := Aside0.mk (Kd.R_below (by (with_reducible repeat (first | apply Kd.R_alloc | apply Kd.R_drewN | apply Kd.R_drew)); exact HO139.out) hb); have n1_ := Aside0.mk (Kd.R_lower ho4 (below_size (bh_ HB))); have n2_ := bs_ HB hb; clear HO139; clear HB; have HO139 := n0_; have HO142 := n1_; have HB := n2_; clear n0_ n1_ n2_; clear hb ho4))
 go_ret2
 exact ⟨_, _, by first | rfl | (simp [errW_none, errW_some] <;> rfl) | (simp [*, errW_none, errW_some] <;> rfl), by (with_reducible repeat (first | apply Kd.R_alloc | apply Kd.R_drewN | apply Kd.R_drew)); exact HO139.out, by (with_reducible repeat (first | apply Kd.R_alloc | apply Kd.R_drewN | apply Kd.R_drew)); exact HO142.out, bh_ HB⟩

end Go.Proofs.YtalcenfcknmchaaDoor.P
