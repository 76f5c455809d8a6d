/- Laid by a program of this session's own (wip/wprint.py, over the kit's print.py): functions of the given program as plain Lean functions, and that the program's calls come to their answers. -/
import Derived.Test.YtlginoicaeonhaaDoorPx0
import Derived.Test.YtlginoicaeonhaaDoorPx1
import Derived.Test.YtlginoicaeonhaaDoorPx6
import Derived.Test.YtlginoicaeonhaaDoorPx9
import Derived.Test.YtlginoicaeonhaaDoorPx11
namespace Go.Proofs.YtlginoicaeonhaaDoor.P
open Go.RowKit Go.Proofs.YtlginoicaeonhaaDoorW.PrintWords Go.Proofs.YtlginoicaeonhaaDoorW.PrintLast Go.Proofs.YtlginoicaeonhaaDoorW.PrintMore
attribute [local go_sem] max2_int min2_int max_two min_two max_three min_three max_four min_four   -- for this text's walks alone
set_option linter.unusedVariables false
set_option linter.unusedSimpArgs false

attribute [local go_sem high] eqA31
/-! ### arg_Words: function 12 -/
def arg_Words.f (a0 : ByteArray) (a1 : Int) : Option (List ByteArray) := (strings_Split.f a0 (strOfNums (([a1] : List Int)))).bind fun t132 => (some t132)
set_option maxHeartbeats 8000000 in
set_option maxRecDepth 100000 in
theorem arg_Words.calls (a0 : ByteArray) (a1 : Int) (r : List ByteArray) (w : World) (h : arg_Words.f a0 a1 = some r) (htab : TabAt w) :
    Calls Tryd.prog 12 #[.string a0, .int .u8 a1] w fun e w' => ∃ v0_ : Value, e = .returned (v0_) ∧ Kd.R Kd.string 9 w' w.heap.size (fun _ => True) v0_ r ∧ Below w.heap.size w w' := by
  have HTAB := Aside0.mk htab
  clear htab
  have HB := Aside0.mk (Below.refl w.heap.size w)
  have H : ((strings_Split.f a0 (strOfNums (([a1] : List Int)))).bind fun t132 => (some t132)) = some r := h
  clear h
  obtain ⟨y129, hy129⟩ : ∃ y_ : List Int, y_ = (([a1] : List Int)) := ⟨_, rfl⟩
  replace H : ((strings_Split.f a0 (strOfNums y129)).bind fun t132 => (some t132)) = some r := by first | (rw [hy129]; with_reducible exact H) | (have H2_ := (Option.bind_some _ _).symm.trans H; rw [hy129]; with_reducible exact H2_) | (have H2_ := (Option.bind_some _ _).symm.trans H; with_reducible exact H2_) | with_reducible exact H | (rw [hy129]; exact H) | exact H
  have Ny129 := Aside0.mk hy129
  clear hy129
  replace H := Option.bind_eq_some_iff.mp H
  obtain ⟨t132, A30, H⟩ := H
  replace H : (some t132) = some r := H
  have A3 := Aside0.mk A30
  clear A30
  obtain rfl := Option.some.inj H
  go_enter Tryd.func12, Tryd.ntmps12
  go_wp2_with (first | ((with_reducible refine gate_dst (N := 7) rfl ?_); refine Kd.R_lit (Kd.int .u8) _ 5 ?hg (N := 7) ?hd (xs := ([a1] : List Int)) (inner := [.int .u8 a1]) (ok := fun _ => True) (okp := fun _ => True) ?hr ?hp (fun _ hk => hk) trivial (Below.refl _ _) (Nat.le_refl _) (by simp) ?_; (case hd => rfl); (case hg => rfl); (case hr => first | (go_simp; done) | (go_simp; rfl)); (case hp => exact (Reps.one (show Kd.M (Kd.int .u8) _ _ _ a1 [.int .u8 a1] from rfl) (Reps.none _ _))); intro v130 w4 ho5 hb hg_ hnew_; clear hg_ hnew_; (first | rw [← Ny129.out] at ho5 | (simp only [Int.reduceToNat] at ho5; rw [← Ny129.out] at ho5)); have HO131 := Aside0.mk (Kd.R_lower ho5 (below_size (bh_ HB))); replace HB := bs_ HB hb; clear hb ho5; have hcv6 := own_string (P := Tryd.prog) Tryd.underlying41 Tryd.underlying5 Tryd.underlying9 (Kd.own_of_R HO131.out)) | ((with_reducible refine gate_callee (f := 27) rfl ?_); refine gl_ (some 9) rfl rfl Tryd.func27 (by kernel_rfl) rfl #[.string a0, .string (strOfNums y129)] rfl ?_; (with_reducible refine (strings_Split.calls a0 (strOfNums y129) t132 _ A3.out ?tb0_).mono ?_); (case tb0_ => exact tb_ HTAB HB); rintro e w7 ⟨v133, rfl, ho0, hb⟩; refine ⟨_, rfl, ?_⟩; have n0_ := Aside0.mk (Kd.R_below (by (with_reducible repeat (first | apply Kd.R_alloc | apply Kd.R_drewN | apply Kd.R_drew)); exact HO131.out) hb); have n1_ := Aside0.mk (Kd.R_lower ho0 (below_size (bh_ HB))); have n2_ := bs_ HB hb; clear HO131; clear HB; have HO131 := n0_; have HO134 := n1_; have HB := n2_; clear n0_ n1_ n2_; (try clear hb); (try clear hb2); (try clear hk); (try clear hi); (try clear ho0)))
  go_ret
  exact ⟨_, by first | rfl | (simp [errW_none, errW_some] <;> rfl) | (simp [*, errW_none, errW_some] <;> rfl), by (with_reducible repeat (first | apply Kd.R_alloc | apply Kd.R_drewN | apply Kd.R_drew)); exact HO134.out, bh_ HB⟩

/-! ### salvorlaw9_ArgRuns: function 3 -/
def salvorlaw9_ArgRuns.g (k : Nat)  : Option (Bool) := (arg_Flags.f (⟨#[114, 110, 58]⟩ : ByteArray) (([(⟨#[45, 114, 110]⟩ : ByteArray), (⟨#[51]⟩ : ByteArray), (⟨#[120]⟩ : ByteArray)] : List ByteArray))).bind fun bt138 => ((arg_Operands.f k (([(⟨#[105, 102, 61, 97, 61, 98]⟩ : ByteArray), (⟨#[99, 111, 110, 118, 61]⟩ : ByteArray), (⟨#[99, 111, 110, 118, 61, 120]⟩ : ByteArray)] : List ByteArray))).bind fun bt149 => (if bt138.2.2 = true then (if (bt138.1.length : Int) = 2 then (if 0 < (bt138.1.length : Int) then (if ((((rd_T31 bt138.1 0).f0).toList) == ([114] : List UInt8) && ((((rd_T31 bt138.1 0).f1).toList) == ([] : List UInt8))) = true then (if 1 < (bt138.1.length : Int) then (if ((((rd_T31 bt138.1 1).f0).toList) == ([110] : List UInt8) && ((((rd_T31 bt138.1 1).f1).toList) == ([51] : List UInt8))) = true then (if (bt138.2.1.length : Int) = 1 then (if 0 < (bt138.2.1.length : Int) then (if (rdOf ByteArray.empty bt138.2.1 0).toList = ([120] : List UInt8) then (if bt149.2 = true then (if (bt149.1.length : Int) = 3 then (if 0 < (bt149.1.length : Int) then (if ((((rd_T31 bt149.1 0).f0).toList) == ([105, 102] : List UInt8) && ((((rd_T31 bt149.1 0).f1).toList) == ([97, 61, 98] : List UInt8))) = true then ((arg_Words.f (⟨#[97, 44, 44, 98]⟩ : ByteArray) 44).bind fun t157 => (some ((t157.length : Int) == 3))) else (some false)) else (none)) else (some false)) else (some false)) else (some false)) else (none)) else (some false)) else (some false)) else (none)) else (some false)) else (none)) else (some false)) else (some false)))
theorem salvorlaw9_ArgRuns.gmono : ∀ k, LeO (salvorlaw9_ArgRuns.g k ) (salvorlaw9_ArgRuns.g (k + 1) ) := by
 intro  k
 unfold salvorlaw9_ArgRuns.g
 repeat' first
   | (with_reducible exact arg_Operands.mono _ _)
   | (with_reducible exact LeO.refl _)
   | (with_reducible exact LeO.none _)
   | (with_reducible refine LeO.ite ?_ ?_)
   | (with_reducible refine LeO.bind ?_ (fun _ => ?_))
   | exact arg_Operands.mono _ _
   | exact LeO.none _
   | refine LeO.ite ?_ ?_
   | refine LeO.bind ?_ (fun _ => ?_)
set_option maxHeartbeats 8000000 in
set_option maxRecDepth 100000 in
theorem salvorlaw9_ArgRuns.callsT (k : Nat)  (r : Bool) (w : World) (h : salvorlaw9_ArgRuns.g k  = some r) (htab : TabAt w) (hrt : r = true) :
  Calls Tryd.prog 3 #[] w fun e w' => e = .returned (.bool r) ∧ Below w.heap.size w w' := by
 have HT := Aside0.mk hrt
 clear hrt
 have HTAB := Aside0.mk htab
 clear htab
 have hu25 := Tryd.underlying25
 have hu31 := Tryd.underlying31
 have HB := Aside0.mk (Below.refl w.heap.size w)
 have H : ((arg_Flags.f (⟨#[114, 110, 58]⟩ : ByteArray) (([(⟨#[45, 114, 110]⟩ : ByteArray), (⟨#[51]⟩ : ByteArray), (⟨#[120]⟩ : ByteArray)] : List ByteArray))).bind fun bt138 => ((arg_Operands.f k (([(⟨#[105, 102, 61, 97, 61, 98]⟩ : ByteArray), (⟨#[99, 111, 110, 118, 61]⟩ : ByteArray), (⟨#[99, 111, 110, 118, 61, 120]⟩ : ByteArray)] : List ByteArray))).bind fun bt149 => (if bt138.2.2 = true then (if (bt138.1.length : Int) = 2 then (if 0 < (bt138.1.length : Int) then (if ((((rd_T31 bt138.1 0).f0).toList) == ([114] : List UInt8) && ((((rd_T31 bt138.1 0).f1).toList) == ([] : List UInt8))) = true then (if 1 < (bt138.1.length : Int) then (if ((((rd_T31 bt138.1 1).f0).toList) == ([110] : List UInt8) && ((((rd_T31 bt138.1 1).f1).toList) == ([51] : List UInt8))) = true then (if (bt138.2.1.length : Int) = 1 then (if 0 < (bt138.2.1.length : Int) then (if (rdOf ByteArray.empty bt138.2.1 0).toList = ([120] : List UInt8) then (if bt149.2 = true then (if (bt149.1.length : Int) = 3 then (if 0 < (bt149.1.length : Int) then (if ((((rd_T31 bt149.1 0).f0).toList) == ([105, 102] : List UInt8) && ((((rd_T31 bt149.1 0).f1).toList) == ([97, 61, 98] : List UInt8))) = true then ((arg_Words.f (⟨#[97, 44, 44, 98]⟩ : ByteArray) 44).bind fun t157 => (some ((t157.length : Int) == 3))) else (some false)) else (none)) else (some false)) else (some false)) else (some false)) else (none)) else (some false)) else (some false)) else (none)) else (some false)) else (none)) else (some false)) else (some false)))) = some r := h
 clear h
 obtain ⟨y135, hy135⟩ : ∃ y_ : List ByteArray, y_ = (([(⟨#[45, 114, 110]⟩ : ByteArray), (⟨#[51]⟩ : ByteArray), (⟨#[120]⟩ : ByteArray)] : List ByteArray)) := ⟨_, rfl⟩
 replace H : ((arg_Flags.f (⟨#[114, 110, 58]⟩ : ByteArray) y135).bind fun bt138 => ((arg_Operands.f k (([(⟨#[105, 102, 61, 97, 61, 98]⟩ : ByteArray), (⟨#[99, 111, 110, 118, 61]⟩ : ByteArray), (⟨#[99, 111, 110, 118, 61, 120]⟩ : ByteArray)] : List ByteArray))).bind fun bt149 => (if bt138.2.2 = true then (if (bt138.1.length : Int) = 2 then (if 0 < (bt138.1.length : Int) then (if ((((rd_T31 bt138.1 0).f0).toList) == ([114] : List UInt8) && ((((rd_T31 bt138.1 0).f1).toList) == ([] : List UInt8))) = true then (if 1 < (bt138.1.length : Int) then (if ((((rd_T31 bt138.1 1).f0).toList) == ([110] : List UInt8) && ((((rd_T31 bt138.1 1).f1).toList) == ([51] : List UInt8))) = true then (if (bt138.2.1.length : Int) = 1 then (if 0 < (bt138.2.1.length : Int) then (if (rdOf ByteArray.empty bt138.2.1 0).toList = ([120] : List UInt8) then (if bt149.2 = true then (if (bt149.1.length : Int) = 3 then (if 0 < (bt149.1.length : Int) then (if ((((rd_T31 bt149.1 0).f0).toList) == ([105, 102] : List UInt8) && ((((rd_T31 bt149.1 0).f1).toList) == ([97, 61, 98] : List UInt8))) = true then ((arg_Words.f (⟨#[97, 44, 44, 98]⟩ : ByteArray) 44).bind fun t157 => (some ((t157.length : Int) == 3))) else (some false)) else (none)) else (some false)) else (some false)) else (some false)) else (none)) else (some false)) else (some false)) else (none)) else (some false)) else (none)) else (some false)) else (some false)))) = some r := by first | (rw [hy135]; with_reducible exact H) | (have H2_ := (Option.bind_some _ _).symm.trans H; rw [hy135]; with_reducible exact H2_) | (have H2_ := (Option.bind_some _ _).symm.trans H; with_reducible exact H2_) | with_reducible exact H | (rw [hy135]; exact H) | exact H
 have Ny135 := Aside0.mk hy135
 clear hy135
 replace H := Option.bind_eq_some_iff.mp H
 obtain ⟨⟨t138, t141, t144⟩, A10, H⟩ := H
 replace H : ((arg_Operands.f k (([(⟨#[105, 102, 61, 97, 61, 98]⟩ : ByteArray), (⟨#[99, 111, 110, 118, 61]⟩ : ByteArray), (⟨#[99, 111, 110, 118, 61, 120]⟩ : ByteArray)] : List ByteArray))).bind fun bt149 => (if t144 = true then (if (t138.length : Int) = 2 then (if 0 < (t138.length : Int) then (if ((((rd_T31 t138 0).f0).toList) == ([114] : List UInt8) && ((((rd_T31 t138 0).f1).toList) == ([] : List UInt8))) = true then (if 1 < (t138.length : Int) then (if ((((rd_T31 t138 1).f0).toList) == ([110] : List UInt8) && ((((rd_T31 t138 1).f1).toList) == ([51] : List UInt8))) = true then (if (t141.length : Int) = 1 then (if 0 < (t141.length : Int) then (if (rdOf ByteArray.empty t141 0).toList = ([120] : List UInt8) then (if bt149.2 = true then (if (bt149.1.length : Int) = 3 then (if 0 < (bt149.1.length : Int) then (if ((((rd_T31 bt149.1 0).f0).toList) == ([105, 102] : List UInt8) && ((((rd_T31 bt149.1 0).f1).toList) == ([97, 61, 98] : List UInt8))) = true then ((arg_Words.f (⟨#[97, 44, 44, 98]⟩ : ByteArray) 44).bind fun t157 => (some ((t157.length : Int) == 3))) else (some false)) else (none)) else (some false)) else (some false)) else (some false)) else (none)) else (some false)) else (some false)) else (none)) else (some false)) else (none)) else (some false)) else (some false))) = some r := H
 have A1 := Aside0.mk A10
 clear A10
 obtain ⟨y146, hy146⟩ : ∃ y_ : List ByteArray, y_ = (([(⟨#[105, 102, 61, 97, 61, 98]⟩ : ByteArray), (⟨#[99, 111, 110, 118, 61]⟩ : ByteArray), (⟨#[99, 111, 110, 118, 61, 120]⟩ : ByteArray)] : List ByteArray)) := ⟨_, rfl⟩
 replace H : ((arg_Operands.f k y146).bind fun bt149 => (if t144 = true then (if (t138.length : Int) = 2 then (if 0 < (t138.length : Int) then (if ((((rd_T31 t138 0).f0).toList) == ([114] : List UInt8) && ((((rd_T31 t138 0).f1).toList) == ([] : List UInt8))) = true then (if 1 < (t138.length : Int) then (if ((((rd_T31 t138 1).f0).toList) == ([110] : List UInt8) && ((((rd_T31 t138 1).f1).toList) == ([51] : List UInt8))) = true then (if (t141.length : Int) = 1 then (if 0 < (t141.length : Int) then (if (rdOf ByteArray.empty t141 0).toList = ([120] : List UInt8) then (if bt149.2 = true then (if (bt149.1.length : Int) = 3 then (if 0 < (bt149.1.length : Int) then (if ((((rd_T31 bt149.1 0).f0).toList) == ([105, 102] : List UInt8) && ((((rd_T31 bt149.1 0).f1).toList) == ([97, 61, 98] : List UInt8))) = true then ((arg_Words.f (⟨#[97, 44, 44, 98]⟩ : ByteArray) 44).bind fun t157 => (some ((t157.length : Int) == 3))) else (some false)) else (none)) else (some false)) else (some false)) else (some false)) else (none)) else (some false)) else (some false)) else (none)) else (some false)) else (none)) else (some false)) else (some false))) = some r := by first | (rw [hy146]; with_reducible exact H) | (have H2_ := (Option.bind_some _ _).symm.trans H; rw [hy146]; with_reducible exact H2_) | (have H2_ := (Option.bind_some _ _).symm.trans H; with_reducible exact H2_) | with_reducible exact H | (rw [hy146]; exact H) | exact H
 have Ny146 := Aside0.mk hy146
 clear hy146
 replace H := Option.bind_eq_some_iff.mp H
 obtain ⟨⟨t149, t150⟩, A20, H⟩ := H
 replace H : (if t144 = true then (if (t138.length : Int) = 2 then (if 0 < (t138.length : Int) then (if ((((rd_T31 t138 0).f0).toList) == ([114] : List UInt8) && ((((rd_T31 t138 0).f1).toList) == ([] : List UInt8))) = true then (if 1 < (t138.length : Int) then (if ((((rd_T31 t138 1).f0).toList) == ([110] : List UInt8) && ((((rd_T31 t138 1).f1).toList) == ([51] : List UInt8))) = true then (if (t141.length : Int) = 1 then (if 0 < (t141.length : Int) then (if (rdOf ByteArray.empty t141 0).toList = ([120] : List UInt8) then (if t150 = true then (if (t149.length : Int) = 3 then (if 0 < (t149.length : Int) then (if ((((rd_T31 t149 0).f0).toList) == ([105, 102] : List UInt8) && ((((rd_T31 t149 0).f1).toList) == ([97, 61, 98] : List UInt8))) = true then ((arg_Words.f (⟨#[97, 44, 44, 98]⟩ : ByteArray) 44).bind fun t157 => (some ((t157.length : Int) == 3))) else (some false)) else (none)) else (some false)) else (some false)) else (some false)) else (none)) else (some false)) else (some false)) else (none)) else (some false)) else (none)) else (some false)) else (some false)) = some r := H
 have A2 := Aside0.mk A20
 clear A20
 by_cases c3 : t144 = true
 ·subst c3
  have H1 : (if (t138.length : Int) = 2 then (if 0 < (t138.length : Int) then (if ((((rd_T31 t138 0).f0).toList) == ([114] : List UInt8) && ((((rd_T31 t138 0).f1).toList) == ([] : List UInt8))) = true then (if 1 < (t138.length : Int) then (if ((((rd_T31 t138 1).f0).toList) == ([110] : List UInt8) && ((((rd_T31 t138 1).f1).toList) == ([51] : List UInt8))) = true then (if (t141.length : Int) = 1 then (if 0 < (t141.length : Int) then (if (rdOf ByteArray.empty t141 0).toList = ([120] : List UInt8) then (if t150 = true then (if (t149.length : Int) = 3 then (if 0 < (t149.length : Int) then (if ((((rd_T31 t149 0).f0).toList) == ([105, 102] : List UInt8) && ((((rd_T31 t149 0).f1).toList) == ([97, 61, 98] : List UInt8))) = true then ((arg_Words.f (⟨#[97, 44, 44, 98]⟩ : ByteArray) 44).bind fun t157 => (some ((t157.length : Int) == 3))) else (some false)) else (none)) else (some false)) else (some false)) else (some false)) else (none)) else (some false)) else (some false)) else (none)) else (some false)) else (none)) else (some false)) = some r := by rw [if_pos rfl] at H; exact H
  clear H
  have H := H1
  clear H1
  by_cases c4 : (t138.length : Int) = 2
  ·rw [if_pos c4] at H
   have c4b0 : ((t138.length : Int) == 2) = true := beq_iff_eq.mpr c4
   have c4b1 : ((t138.length : Int) != 2) = false := bne_eq_false_iff_eq.mpr c4
   clear c4
   by_cases c5 : 0 < (t138.length : Int)
   ·rw [if_pos c5] at H
    have c5b0 : decide (0 < (t138.length : Int)) = true := decide_eq_true c5
    have c5b1 : decide (0 < t138.length) = true := decide_eq_true (by omega)
    clear c5
    by_cases c6 : ((((rd_T31 t138 0).f0).toList) == ([114] : List UInt8) && ((((rd_T31 t138 0).f1).toList) == ([] : List UInt8))) = true
    ·rw [if_pos c6] at H
     have c6b0 : ((((rd_T31 t138 0).f0).toList) == ([114] : List UInt8) && ((((rd_T31 t138 0).f1).toList) == ([] : List UInt8))) = true := c6
     have c6b9 : (rd_T31 t138 0).f0.toList = ([114] : List UInt8) ∧ (rd_T31 t138 0).f1.toList = ([] : List UInt8) := by simpa using c6
     have c6b9 : (rd_T31 t138 0).f0.toList = ([114] : List UInt8) ∧ (rd_T31 t138 0).f1.toList = ([] : List UInt8) := by simpa using c6
     (try (have c6b1 : decide ((((rd_T31 t138 0).f0).toList) = ([114] : List UInt8) && ((((rd_T31 t138 0).f1).toList) == ([] : List UInt8))) = true := by simpa using c6))
     (try (have c6b2 : ((((rd_T31 t138 0).f0).toList) == ([114] : List UInt8) && ((((rd_T31 t138 0).f1).toList) == ([] : List UInt8))) = true := by simpa using c6))
     clear c6
     by_cases c7 : 1 < (t138.length : Int)
     ·rw [if_pos c7] at H
      have c7b0 : decide (1 < (t138.length : Int)) = true := decide_eq_true c7
      have c7b1 : decide (1 < t138.length) = true := decide_eq_true (by omega)
      clear c7
      by_cases c8 : ((((rd_T31 t138 1).f0).toList) == ([110] : List UInt8) && ((((rd_T31 t138 1).f1).toList) == ([51] : List UInt8))) = true
      ·rw [if_pos c8] at H
       have c8b0 : ((((rd_T31 t138 1).f0).toList) == ([110] : List UInt8) && ((((rd_T31 t138 1).f1).toList) == ([51] : List UInt8))) = true := c8
       have c8b9 : (rd_T31 t138 1).f0.toList = ([110] : List UInt8) ∧ (rd_T31 t138 1).f1.toList = ([51] : List UInt8) := by simpa using c8
       have c8b9 : (rd_T31 t138 1).f0.toList = ([110] : List UInt8) ∧ (rd_T31 t138 1).f1.toList = ([51] : List UInt8) := by simpa using c8
       (try (have c8b1 : decide ((((rd_T31 t138 1).f0).toList) = ([110] : List UInt8) && ((((rd_T31 t138 1).f1).toList) == ([51] : List UInt8))) = true := by simpa using c8))
       (try (have c8b2 : ((((rd_T31 t138 1).f0).toList) == ([110] : List UInt8) && ((((rd_T31 t138 1).f1).toList) == ([51] : List UInt8))) = true := by simpa using c8))
       clear c8
       by_cases c9 : (t141.length : Int) = 1
       ·rw [if_pos c9] at H
        have c9b0 : ((t141.length : Int) == 1) = true := beq_iff_eq.mpr c9
        have c9b1 : ((t141.length : Int) != 1) = false := bne_eq_false_iff_eq.mpr c9
        clear c9
        by_cases c10 : 0 < (t141.length : Int)
        ·rw [if_pos c10] at H
         have c10b0 : decide (0 < (t141.length : Int)) = true := decide_eq_true c10
         have c10b1 : decide (0 < t141.length) = true := decide_eq_true (by omega)
         clear c10
         by_cases c11 : (rdOf ByteArray.empty t141 0).toList = ([120] : List UInt8)
         ·rw [if_pos c11] at H
          have c11b0 : ((rdOf ByteArray.empty t141 0).toList == ([120] : List UInt8)) = true := beq_iff_eq.mpr c11
          have c11b1 : ((rdOf ByteArray.empty t141 0).toList != ([120] : List UInt8)) = false := bne_eq_false_iff_eq.mpr c11
          clear c11
          by_cases c12 : t150 = true
          ·subst c12
           have H1 : (if (t149.length : Int) = 3 then (if 0 < (t149.length : Int) then (if ((((rd_T31 t149 0).f0).toList) == ([105, 102] : List UInt8) && ((((rd_T31 t149 0).f1).toList) == ([97, 61, 98] : List UInt8))) = true then ((arg_Words.f (⟨#[97, 44, 44, 98]⟩ : ByteArray) 44).bind fun t157 => (some ((t157.length : Int) == 3))) else (some false)) else (none)) else (some false)) = some r := by rw [if_pos rfl] at H; exact H
           clear H
           have H := H1
           clear H1
           by_cases c13 : (t149.length : Int) = 3
           ·rw [if_pos c13] at H
            have c13b0 : ((t149.length : Int) == 3) = true := beq_iff_eq.mpr c13
            have c13b1 : ((t149.length : Int) != 3) = false := bne_eq_false_iff_eq.mpr c13
            clear c13
            by_cases c14 : 0 < (t149.length : Int)
            ·rw [if_pos c14] at H
             have c14b0 : decide (0 < (t149.length : Int)) = true := decide_eq_true c14
             have c14b1 : decide (0 < t149.length) = true := decide_eq_true (by omega)
             clear c14
             by_cases c15 : ((((rd_T31 t149 0).f0).toList) == ([105, 102] : List UInt8) && ((((rd_T31 t149 0).f1).toList) == ([97, 61, 98] : List UInt8))) = true
             ·rw [if_pos c15] at H
              have c15b0 : ((((rd_T31 t149 0).f0).toList) == ([105, 102] : List UInt8) && ((((rd_T31 t149 0).f1).toList) == ([97, 61, 98] : List UInt8))) = true := c15
              have c15b9 : (rd_T31 t149 0).f0.toList = ([105, 102] : List UInt8) ∧ (rd_T31 t149 0).f1.toList = ([97, 61, 98] : List UInt8) := by simpa using c15
              have c15b9 : (rd_T31 t149 0).f0.toList = ([105, 102] : List UInt8) ∧ (rd_T31 t149 0).f1.toList = ([97, 61, 98] : List UInt8) := by simpa using c15
              (try (have c15b1 : decide ((((rd_T31 t149 0).f0).toList) = ([105, 102] : List UInt8) && ((((rd_T31 t149 0).f1).toList) == ([97, 61, 98] : List UInt8))) = true := by simpa using c15))
              (try (have c15b2 : ((((rd_T31 t149 0).f0).toList) == ([105, 102] : List UInt8) && ((((rd_T31 t149 0).f1).toList) == ([97, 61, 98] : List UInt8))) = true := by simpa using c15))
              clear c15
              replace H := Option.bind_eq_some_iff.mp H
              obtain ⟨t157, A160, H⟩ := H
              replace H : (some ((t157.length : Int) == 3)) = some r := H
              have A16 := Aside0.mk A160
              clear A160
              obtain rfl := Option.some.inj H
              go_enter Tryd.func3, Tryd.ntmps3
              go_wp2_with (first | ((with_reducible refine gate_dst (N := 6) rfl ?_); (try (refine gate_guard (by rfl) ?_; dsimp only)); refine Kd.R_lit Kd.string _ 9 ?hg (N := 6) ?hd (xs := ([(⟨#[45, 114, 110]⟩ : ByteArray), (⟨#[51]⟩ : ByteArray), (⟨#[120]⟩ : ByteArray)] : List ByteArray)) (inner := [.string (⟨#[45, 114, 110]⟩ : ByteArray), .string (⟨#[51]⟩ : ByteArray), .string (⟨#[120]⟩ : ByteArray)]) (ok := fun _ => True) (okp := fun _ => True) ?hr ?hp (fun _ hk => hk) trivial (Below.refl _ _) (Nat.le_refl _) (by simp) ?_; (case hd => rfl); (case hg => rfl); (case hr => first | (go_simp; done) | (go_simp; rfl)); (case hp => exact (Reps.one (show Kd.M Kd.string _ _ _ (⟨#[45, 114, 110]⟩ : ByteArray) [.string (⟨#[45, 114, 110]⟩ : ByteArray)] from rfl) (Reps.one (show Kd.M Kd.string _ _ _ (⟨#[51]⟩ : ByteArray) [.string (⟨#[51]⟩ : ByteArray)] from rfl) (Reps.one (show Kd.M Kd.string _ _ _ (⟨#[120]⟩ : ByteArray) [.string (⟨#[120]⟩ : ByteArray)] from rfl) (Reps.none _ _))))); intro v136 w17 ho18 hb hg_ hnew_; clear hg_ hnew_; (first | rw [← Ny135.out] at ho18 | (simp only [Int.reduceToNat] at ho18; rw [← Ny135.out] at ho18)); have HO137 := Aside0.mk (Kd.R_lower ho18 (below_size (bh_ HB))); replace HB := bs_ HB hb; clear hb ho18; obtain ⟨Ao19, co19, eo19⟩ := Kd.R_slice HO137.out; subst eo19) | ((with_reducible refine gate_callee (f := 10) rfl ?_); refine gl_ (some 7) rfl rfl Tryd.func10 (by kernel_rfl) rfl #[.string (⟨#[114, 110, 58]⟩ : ByteArray), .slice Ao19 y135.length co19] rfl ?_; (with_reducible refine (arg_Flags.calls (⟨#[114, 110, 58]⟩ : ByteArray) _ _ y135 t138 t141 true _ ?side1 ?side2 A1.out ?tb0_).mono ?_); (case tb0_ => exact tb_ HTAB HB); (case side1 => repeat (first | exact (Kd.R_reads' HO137.out).2.2 | (with_reducible refine Kd.C_alloc ?_ _) | (with_reducible refine Kd.C_drewN ?_ _) | (with_reducible refine Kd.C_drew ?_))); (case side2 => exact (Kd.R_reads' HO137.out).2.1); rintro e w20 ⟨v139, v142, rfl, ho0, ho1, hb⟩; refine ⟨_, rfl, ?_⟩; have n0_ := Aside0.mk (Kd.R_elder' (by (with_reducible repeat (first | apply Kd.R_alloc | apply Kd.R_drewN | apply Kd.R_drew)); exact HO137.out) (Kd.R_base ho1) hb); have n1_ := Aside0.mk (Kd.R_lower ho0 (below_size (bh_ HB))); have n2_ := Aside0.mk (Kd.R_lower (Kd.R_new' ho1 (Kd.R_lt (by (with_reducible repeat (first | apply Kd.R_alloc | apply Kd.R_drewN | apply Kd.R_drew)); exact HO137.out))) (below_size (bh_ HB))); have n3_ := bs_ HB hb; clear HO137; clear HB; have HO137 := n0_; have HO140 := n1_; have HO143 := n2_; have HB := n3_; clear n0_ n1_ n2_ n3_; (try clear hb); (try clear hb2); (try clear hk); (try clear hi); (try clear ho0); (try clear ho1)) | ((with_reducible refine gate_dst (N := 1) rfl ?_); (try (refine gate_guard (by rfl) ?_; dsimp only)); refine box_e 1 #[.slice none 0 0, .slice none 0 0] 25 ?_; intro gb145 hg w21 hbox hb; have n0_ := Aside0.mk (Kd.R_below (by (with_reducible repeat (first | apply Kd.R_alloc | apply Kd.R_drewN | apply Kd.R_drew)); exact HO137.out) hb); have n1_ := Aside0.mk (Kd.R_below (by (with_reducible repeat (first | apply Kd.R_alloc | apply Kd.R_drewN | apply Kd.R_drew)); exact HO140.out) hb); have n2_ := Aside0.mk (Kd.R_below (by (with_reducible repeat (first | apply Kd.R_alloc | apply Kd.R_drewN | apply Kd.R_drew)); exact HO143.out) hb); have n3_ := bs_ HB hb; have n4_ := Aside0.mk hbox; have n5_ := bg_ HB hg; have n6_ := bg_ HB hg; clear HO137; clear HO140; clear HO143; clear HB; have HO137 := n0_; have HO140 := n1_; have HO143 := n2_; have HB := n3_; have BK145 := n4_; have GW145 := n5_; have GE145 := n6_; clear n0_ n1_ n2_ n3_ n4_ n5_ n6_; clear hb hbox hg; obtain ⟨Ao22, co22, eo22⟩ := Kd.R_slice HO140.out; subst eo22; obtain ⟨hcz23_0, hcz23_1, hfz23_0, hfz23_1⟩ := c2_ BK145; obtain ⟨Ao24, co24, eo24⟩ := Kd.R_slice HO143.out; subst eo24) | ((with_reducible refine gate_dst (N := 11) rfl ?_); (try (refine gate_guard (by rfl) ?_; dsimp only)); refine Kd.R_lit Kd.string _ 9 ?hg (N := 11) ?hd (xs := ([(⟨#[105, 102, 61, 97, 61, 98]⟩ : ByteArray), (⟨#[99, 111, 110, 118, 61]⟩ : ByteArray), (⟨#[99, 111, 110, 118, 61, 120]⟩ : ByteArray)] : List ByteArray)) (inner := [.string (⟨#[105, 102, 61, 97, 61, 98]⟩ : ByteArray), .string (⟨#[99, 111, 110, 118, 61]⟩ : ByteArray), .string (⟨#[99, 111, 110, 118, 61, 120]⟩ : ByteArray)]) (ok := fun _ => True) (okp := fun _ => True) ?hr ?hp (fun _ hk => hk) trivial (Below.refl _ _) (Nat.le_refl _) (by simp) ?_; (case hd => rfl); (case hg => rfl); (case hr => first | (go_simp; done) | (go_simp; rfl)); (case hp => exact (Reps.one (show Kd.M Kd.string _ _ _ (⟨#[105, 102, 61, 97, 61, 98]⟩ : ByteArray) [.string (⟨#[105, 102, 61, 97, 61, 98]⟩ : ByteArray)] from rfl) (Reps.one (show Kd.M Kd.string _ _ _ (⟨#[99, 111, 110, 118, 61]⟩ : ByteArray) [.string (⟨#[99, 111, 110, 118, 61]⟩ : ByteArray)] from rfl) (Reps.one (show Kd.M Kd.string _ _ _ (⟨#[99, 111, 110, 118, 61, 120]⟩ : ByteArray) [.string (⟨#[99, 111, 110, 118, 61, 120]⟩ : ByteArray)] from rfl) (Reps.none _ _))))); intro v147 w25 ho26 hb hg_ hnew_; clear hg_ hnew_; (first | rw [← Ny146.out] at ho26 | (simp only [Int.reduceToNat] at ho26; rw [← Ny146.out] at ho26)); have n0_ := Aside0.mk (Kd.R_elder' (by (with_reducible repeat (first | apply Kd.R_alloc | apply Kd.R_drewN | apply Kd.R_drew)); exact (Kd.R_mono (Kd.R_far (p := ⟨gb145, 1, none⟩) (Kd.R_far (p := ⟨gb145, 0, none⟩) (Kd.R_types HO137.out BK145.out (by decide)) (fun _ hk => hk.2) (.slice Ao22 t138.length co22)) (fun _ hk => hk.2) (.slice Ao24 t141.length co24)) (fun _ h_ => h_.1))) (Kd.R_base ho26) hb); have n1_ := Aside0.mk (Kd.R_below (by (with_reducible repeat (first | apply Kd.R_alloc | apply Kd.R_drewN | apply Kd.R_drew)); exact (Kd.R_mono (Kd.R_far (p := ⟨gb145, 1, none⟩) (Kd.R_far (p := ⟨gb145, 0, none⟩) (Kd.R_types HO140.out BK145.out (by decide)) (fun _ hk => hk.2) (.slice Ao22 t138.length co22)) (fun _ hk => hk.2) (.slice Ao24 t141.length co24)) (fun _ h_ => h_.1))) hb); have n2_ := Aside0.mk (Kd.R_elder' (by (with_reducible repeat (first | apply Kd.R_alloc | apply Kd.R_drewN | apply Kd.R_drew)); exact (Kd.R_mono (Kd.R_far (p := ⟨gb145, 1, none⟩) (Kd.R_far (p := ⟨gb145, 0, none⟩) (Kd.R_types HO143.out BK145.out (by decide)) (fun _ hk => hk.2) (.slice Ao22 t138.length co22)) (fun _ hk => hk.2) (.slice Ao24 t141.length co24)) (fun _ h_ => h_.1))) (Kd.R_base ho26) hb); have n3_ := Aside0.mk (Kd.R_lower (Kd.R_new' (Kd.R_new' ho26 (Kd.R_lt (by (with_reducible repeat (first | apply Kd.R_alloc | apply Kd.R_drewN | apply Kd.R_drew)); exact (Kd.R_mono (Kd.R_far (p := ⟨gb145, 1, none⟩) (Kd.R_far (p := ⟨gb145, 0, none⟩) (Kd.R_types HO137.out BK145.out (by decide)) (fun _ hk => hk.2) (.slice Ao22 t138.length co22)) (fun _ hk => hk.2) (.slice Ao24 t141.length co24)) (fun _ h_ => h_.1))))) (Kd.R_lt (by (with_reducible repeat (first | apply Kd.R_alloc | apply Kd.R_drewN | apply Kd.R_drew)); exact (Kd.R_mono (Kd.R_far (p := ⟨gb145, 1, none⟩) (Kd.R_far (p := ⟨gb145, 0, none⟩) (Kd.R_types HO143.out BK145.out (by decide)) (fun _ hk => hk.2) (.slice Ao22 t138.length co22)) (fun _ hk => hk.2) (.slice Ao24 t141.length co24)) (fun _ h_ => h_.1))))) (below_size (bh_ HB))); have n4_ := Aside0.mk (blk_below (g := gb145) (o := .cells #[.slice Ao22 t138.length co22, .slice Ao24 t141.length co24] 25 (0, 0)) (bp_ BK145) hb); have n5_ := bs_ HB hb; clear HO137; clear HO140; clear HO143; clear BK145; clear HB; have HO137 := n0_; have HO140 := n1_; have HO143 := n2_; have HO148 := n3_; have BK145 := n4_; have HB := n5_; clear n0_ n1_ n2_ n3_ n4_ n5_; clear hb ho26; obtain ⟨Ao27, co27, eo27⟩ := Kd.R_slice HO148.out; subst eo27) | ((with_reducible refine gate_callee (f := 11) rfl ?_); refine gl_ (some 12) rfl rfl Tryd.func11 (by kernel_rfl) rfl #[.slice Ao27 y146.length co27] rfl ?_; (with_reducible refine (arg_Operands.calls k _ _ y146 t149 true _ ?side1 ?side2 A2.out ?tb2_).mono ?_); (case tb2_ => exact tb_ HTAB HB); (case side1 => repeat (first | exact (Kd.R_reads' HO148.out).2.2 | (with_reducible refine Kd.C_alloc ?_ _) | (with_reducible refine Kd.C_drewN ?_ _) | (with_reducible refine Kd.C_drew ?_))); (case side2 => exact (Kd.R_reads' HO148.out).2.1); rintro e w28 ⟨v151, rfl, ho0, hb⟩; refine ⟨_, rfl, ?_⟩; have n0_ := Aside0.mk (Kd.R_below (by (with_reducible repeat (first | apply Kd.R_alloc | apply Kd.R_drewN | apply Kd.R_drew)); exact HO137.out) hb); have n1_ := Aside0.mk (Kd.R_elder' (by (with_reducible repeat (first | apply Kd.R_alloc | apply Kd.R_drewN | apply Kd.R_drew)); exact HO140.out) (Kd.R_base ho0) hb); have n2_ := Aside0.mk (Kd.R_below (by (with_reducible repeat (first | apply Kd.R_alloc | apply Kd.R_drewN | apply Kd.R_drew)); exact HO143.out) hb); have n3_ := Aside0.mk (Kd.R_below (by (with_reducible repeat (first | apply Kd.R_alloc | apply Kd.R_drewN | apply Kd.R_drew)); exact HO148.out) hb); have n4_ := Aside0.mk (Kd.R_lower (Kd.R_new' ho0 (Kd.R_lt (by (with_reducible repeat (first | apply Kd.R_alloc | apply Kd.R_drewN | apply Kd.R_drew)); exact HO140.out))) (below_size (bh_ HB))); have n5_ := bb_ BK145 hb; have n6_ := bs_ HB hb; clear HO137; clear HO140; clear HO143; clear HO148; clear BK145; clear HB; have HO137 := n0_; have HO140 := n1_; have HO143 := n2_; have HO148 := n3_; have HO152 := n4_; have BK145 := n5_; have HB := n6_; clear n0_ n1_ n2_ n3_ n4_ n5_ n6_; (try clear hb); (try clear hb2); (try clear hk); (try clear hi); (try clear ho0); obtain ⟨hcz29_0, hcz29_1, hfz29_0, hfz29_1⟩ := c2_ BK145; have p153 : 0 ≤ (0 : Int) := (by omega); have q153 : 0 < (t138.length : Int) := of_decide_eq_true (by first | (with_reducible assumption) | assumption); obtain ⟨ad153, e153, hx153_0, hx153_1⟩ := at_T31 (Kd.R_reads' HO140.out).2.2 0 p153 q153; cases e153; have qi153 : (0 < t138.length) = True := eq_true (by omega); (try rw [show ((0 : Int)).toNat = 0 from rfl] at hx153_0); (try rw [show 0 * 2 = 0 from rfl] at hx153_0); (try rw [Addr.add_zero'] at hx153_0); (try rw [show ((0 : Int)).toNat = 0 from rfl] at hx153_1); (try rw [show 0 * 2 = 0 from rfl] at hx153_1); (try rw [Addr.add_zero'] at hx153_1); replace p153 := eq_true p153; replace q153 := eq_true q153; have p154 : 0 ≤ (1 : Int) := (by omega); have q154 : 1 < (t138.length : Int) := of_decide_eq_true (by first | (with_reducible assumption) | assumption); obtain ⟨ad154, e154, hx154_0, hx154_1⟩ := at_T31 (Kd.R_reads' HO140.out).2.2 1 p154 q154; obtain rfl : ad153 = ad154 := (by injection e154); (try simp only [show (1 : Int).toNat = 1 from rfl, Nat.reduceMul, Nat.reduceEqDiff, Go.Addr.add, ↓reduceIte] at hx154_0); (try simp only [show (1 : Int).toNat = 1 from rfl, Nat.reduceMul, Nat.reduceEqDiff, Go.Addr.add, ↓reduceIte] at hx154_1); have qi154 : (1 < t138.length) = True := eq_true (by omega); (try rw [show ((1 : Int)).toNat = 1 from rfl] at hx154_0); (try rw [show 1 * 2 = 2 from rfl] at hx154_0); (try rw [show ((1 : Int)).toNat = 1 from rfl] at hx154_1); (try rw [show 1 * 2 = 2 from rfl] at hx154_1); replace p154 := eq_true p154; replace q154 := eq_true q154; have p155 : 0 ≤ (0 : Int) := (by omega); have q155 : 0 < (t141.length : Int) := of_decide_eq_true (by first | (with_reducible assumption) | assumption); obtain ⟨ad155, e155, hx155_0⟩ := Kd.at_string (Kd.R_reads' HO143.out).2.2 0 p155 q155; cases e155; have qi155 : (0 < t141.length) = True := eq_true (by omega); (try rw [show ((0 : Int)).toNat = 0 from rfl] at hx155_0); (try rw [Addr.add_zero'] at hx155_0); replace p155 := eq_true p155; replace q155 := eq_true q155; obtain ⟨Ao30, co30, eo30⟩ := Kd.R_slice HO152.out; subst eo30; have p156 : 0 ≤ (0 : Int) := (by omega); have q156 : 0 < (t149.length : Int) := of_decide_eq_true (by first | (with_reducible assumption) | assumption); obtain ⟨ad156, e156, hx156_0, hx156_1⟩ := at_T31 (Kd.R_reads' HO152.out).2.2 0 p156 q156; cases e156; have qi156 : (0 < t149.length) = True := eq_true (by omega); (try rw [show ((0 : Int)).toNat = 0 from rfl] at hx156_0); (try rw [show 0 * 2 = 0 from rfl] at hx156_0); (try rw [Addr.add_zero'] at hx156_0); (try rw [show ((0 : Int)).toNat = 0 from rfl] at hx156_1); (try rw [show 0 * 2 = 0 from rfl] at hx156_1); (try rw [Addr.add_zero'] at hx156_1); replace p156 := eq_true p156; replace q156 := eq_true q156) | (go_at_call 12; (with_reducible refine (arg_Words.calls (⟨#[97, 44, 44, 98]⟩ : ByteArray) 44 t157 _ A16.out ?tb4_).mono ?_); (case tb4_ => exact tb_ HTAB HB); rintro e w31 ⟨v158, rfl, ho0, hb⟩; have n0_ := Aside0.mk (Kd.R_elder' (by (with_reducible repeat (first | apply Kd.R_alloc | apply Kd.R_drewN | apply Kd.R_drew)); exact HO137.out) (Kd.R_base ho0) hb); have n1_ := Aside0.mk (Kd.R_below (by (with_reducible repeat (first | apply Kd.R_alloc | apply Kd.R_drewN | apply Kd.R_drew)); exact HO140.out) hb); have n2_ := Aside0.mk (Kd.R_elder' (by (with_reducible repeat (first | apply Kd.R_alloc | apply Kd.R_drewN | apply Kd.R_drew)); exact HO143.out) (Kd.R_base ho0) hb); have n3_ := Aside0.mk (Kd.R_elder' (by (with_reducible repeat (first | apply Kd.R_alloc | apply Kd.R_drewN | apply Kd.R_drew)); exact HO148.out) (Kd.R_base ho0) hb); have n4_ := Aside0.mk (Kd.R_below (by (with_reducible repeat (first | apply Kd.R_alloc | apply Kd.R_drewN | apply Kd.R_drew)); exact HO152.out) hb); have n5_ := Aside0.mk (Kd.R_lower (Kd.R_new' (Kd.R_new' (Kd.R_new' ho0 (Kd.R_lt (by (with_reducible repeat (first | apply Kd.R_alloc | apply Kd.R_drewN | apply Kd.R_drew)); exact HO137.out))) (Kd.R_lt (by (with_reducible repeat (first | apply Kd.R_alloc | apply Kd.R_drewN | apply Kd.R_drew)); exact HO143.out))) (Kd.R_lt (by (with_reducible repeat (first | apply Kd.R_alloc | apply Kd.R_drewN | apply Kd.R_drew)); exact HO148.out))) (below_size (bh_ HB))); have n6_ := bb_ BK145 hb; have n7_ := bs_ HB hb; clear HO137; clear HO140; clear HO143; clear HO148; clear HO152; clear BK145; clear HB; have HO137 := n0_; have HO140 := n1_; have HO143 := n2_; have HO148 := n3_; have HO152 := n4_; have HO159 := n5_; have BK145 := n6_; have HB := n7_; clear n0_ n1_ n2_ n3_ n4_ n5_ n6_ n7_; (try clear hb); (try clear hb2); (try clear hk); (try clear hi); (try clear ho0); obtain ⟨Ao32, co32, eo32⟩ := Kd.R_slice HO159.out; subst eo32))
              go_ret
              exact ⟨by first | rfl | (simp [errW_none, errW_some] <;> rfl) | (simp [*, errW_none, errW_some] <;> rfl), bh_ HB⟩
             ·rw [if_neg c15] at H
              have c15b0 : ((((rd_T31 t149 0).f0).toList) == ([105, 102] : List UInt8) && ((((rd_T31 t149 0).f1).toList) == ([97, 61, 98] : List UInt8))) = false := by simpa using c15
              (try (have c15b1 : decide ((((rd_T31 t149 0).f0).toList) = ([105, 102] : List UInt8) && ((((rd_T31 t149 0).f1).toList) == ([97, 61, 98] : List UInt8))) = false := by simpa using c15))
              (try (have c15b2 : ((((rd_T31 t149 0).f0).toList) == ([105, 102] : List UInt8) && ((((rd_T31 t149 0).f1).toList) == ([97, 61, 98] : List UInt8))) = false := by simpa using c15))
              (try (have c15b3 : ¬ ((((rd_T31 t149 0).f0).toList) = ([105, 102] : List UInt8) && ((((rd_T31 t149 0).f1).toList) == ([97, 61, 98] : List UInt8))) := by simpa using c15))
              clear c15
              exact absurd ((Option.some.inj H).trans HT.out) (by simp)
            ·rw [if_neg c14] at H
             exact absurd H (by simp)
           ·rw [if_neg c13] at H
            have c13b0 : ((t149.length : Int) == 3) = false := beq_eq_false_iff_ne.mpr c13
            have c13b1 : ((t149.length : Int) != 3) = true := bne_iff_ne.mpr c13
            exact absurd ((Option.some.inj H).trans HT.out) (by simp)
          ·replace c12 := Bool.eq_false_iff.mpr c12
           subst c12
           have H1 : (some false) = some r := by rw [if_neg (show ¬ (false = true) by decide)] at H; exact H
           clear H
           have H := H1
           clear H1
           exact absurd ((Option.some.inj H).trans HT.out) (by simp)
         ·rw [if_neg c11] at H
          have c11b0 : ((rdOf ByteArray.empty t141 0).toList == ([120] : List UInt8)) = false := beq_eq_false_iff_ne.mpr c11
          have c11b1 : ((rdOf ByteArray.empty t141 0).toList != ([120] : List UInt8)) = true := bne_iff_ne.mpr c11
          exact absurd ((Option.some.inj H).trans HT.out) (by simp)
        ·rw [if_neg c10] at H
         exact absurd H (by simp)
       ·rw [if_neg c9] at H
        have c9b0 : ((t141.length : Int) == 1) = false := beq_eq_false_iff_ne.mpr c9
        have c9b1 : ((t141.length : Int) != 1) = true := bne_iff_ne.mpr c9
        exact absurd ((Option.some.inj H).trans HT.out) (by simp)
      ·rw [if_neg c8] at H
       have c8b0 : ((((rd_T31 t138 1).f0).toList) == ([110] : List UInt8) && ((((rd_T31 t138 1).f1).toList) == ([51] : List UInt8))) = false := by simpa using c8
       (try (have c8b1 : decide ((((rd_T31 t138 1).f0).toList) = ([110] : List UInt8) && ((((rd_T31 t138 1).f1).toList) == ([51] : List UInt8))) = false := by simpa using c8))
       (try (have c8b2 : ((((rd_T31 t138 1).f0).toList) == ([110] : List UInt8) && ((((rd_T31 t138 1).f1).toList) == ([51] : List UInt8))) = false := by simpa using c8))
       (try (have c8b3 : ¬ ((((rd_T31 t138 1).f0).toList) = ([110] : List UInt8) && ((((rd_T31 t138 1).f1).toList) == ([51] : List UInt8))) := by simpa using c8))
       clear c8
       exact absurd ((Option.some.inj H).trans HT.out) (by simp)
     ·rw [if_neg c7] at H
      exact absurd H (by simp)
    ·rw [if_neg c6] at H
     have c6b0 : ((((rd_T31 t138 0).f0).toList) == ([114] : List UInt8) && ((((rd_T31 t138 0).f1).toList) == ([] : List UInt8))) = false := by simpa using c6
     (try (have c6b1 : decide ((((rd_T31 t138 0).f0).toList) = ([114] : List UInt8) && ((((rd_T31 t138 0).f1).toList) == ([] : List UInt8))) = false := by simpa using c6))
     (try (have c6b2 : ((((rd_T31 t138 0).f0).toList) == ([114] : List UInt8) && ((((rd_T31 t138 0).f1).toList) == ([] : List UInt8))) = false := by simpa using c6))
     (try (have c6b3 : ¬ ((((rd_T31 t138 0).f0).toList) = ([114] : List UInt8) && ((((rd_T31 t138 0).f1).toList) == ([] : List UInt8))) := by simpa using c6))
     clear c6
     exact absurd ((Option.some.inj H).trans HT.out) (by simp)
   ·rw [if_neg c5] at H
    exact absurd H (by simp)
  ·rw [if_neg c4] at H
   have c4b0 : ((t138.length : Int) == 2) = false := beq_eq_false_iff_ne.mpr c4
   have c4b1 : ((t138.length : Int) != 2) = true := bne_iff_ne.mpr c4
   exact absurd ((Option.some.inj H).trans HT.out) (by simp)
 ·replace c3 := Bool.eq_false_iff.mpr c3
  subst c3
  have H1 : (some false) = some r := by rw [if_neg (show ¬ (false = true) by decide)] at H; exact H
  clear H
  have H := H1
  clear H1
  exact absurd ((Option.some.inj H).trans HT.out) (by simp)
def salvorlaw9_ArgRuns.f (k : Nat) : Option (Bool) := (salvorlaw9_ArgRuns.g k).bind fun b => if b = true then some true else none
theorem salvorlaw9_ArgRuns.mono : ∀ k, LeO (salvorlaw9_ArgRuns.f k) (salvorlaw9_ArgRuns.f (k + 1)) := fun k => LeO.bind (salvorlaw9_ArgRuns.gmono k) (fun _ => LeO.refl _)
theorem salvorlaw9_ArgRuns.calls (k : Nat) (r : Bool) (w : World) (h : salvorlaw9_ArgRuns.f k = some r) (htab : TabAt w) : Calls Tryd.prog 3 #[] w fun e w' => e = .returned (.bool r) ∧ Below w.heap.size w w' := by
  obtain ⟨b, hb, h1⟩ := Option.bind_eq_some_iff.mp h
  cases b with
  | false => simp at h1
  | true =>
    rw [if_pos rfl] at h1
    obtain rfl := Option.some.inj h1
    exact salvorlaw9_ArgRuns.callsT k true w hb htab rfl

end Go.Proofs.YtlginoicaeonhaaDoor.P
