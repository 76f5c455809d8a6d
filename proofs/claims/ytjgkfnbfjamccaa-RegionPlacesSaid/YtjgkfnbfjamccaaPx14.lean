/- Laid by a program of this session's own (wip/wprint.py, over the kit's print.py): functions of the given program as plain Lean functions, and that the program's calls come to their answers. -/
import Derived.Test.YtjgkfnbfjamccaaPx0
import Derived.Test.YtjgkfnbfjamccaaPx13
namespace Go.Proofs.Ytjgkfnbfjamccaa.P
open Go.RowKit Go.Proofs.YtjgkfnbfjamccaaW.PrintWords Go.Proofs.YtjgkfnbfjamccaaW.PrintLast Go.Proofs.YtjgkfnbfjamccaaW.PrintMore
attribute [local go_sem] max2_int min2_int max_two min_two max_three min_three max_four min_four   -- for this text's walks alone
set_option linter.unusedVariables false
set_option linter.unusedSimpArgs false

/-! ### salvorref16_End: function 28 -/
def salvorref16_End.f (k : Nat) (l0 : List (S26)) : Option (Int) := (salvorref16_MayRegions.f k l0).bind fun t191 => (if t191 = true then (if (l0.length : Int) = 0 then (some 0) else (if 0 ≤ (wrap64 ((l0.length : Int) - 1)) then (if (wrap64 ((l0.length : Int) - 1)) < (l0.length : Int) then (some (wrap64 (((rd_T26 l0 (wrap64 ((l0.length : Int) - 1))).f0) + ((rd_T26 l0 (wrap64 ((l0.length : Int) - 1))).f1)))) else (none)) else (none))) else (some 0))
theorem salvorref16_End.mono : ∀ a0 k, LeO (salvorref16_End.f k a0) (salvorref16_End.f (k + 1) a0) := by
 intro a0 k
 unfold salvorref16_End.f
 repeat' first
   | (with_reducible exact salvorref16_MayRegions.mono _ _)
   | (with_reducible exact LeO.refl _)
   | (with_reducible exact LeO.none _)
   | (with_reducible refine LeO.ite ?_ ?_)
   | (with_reducible refine LeO.bind ?_ (fun _ => ?_))
   | exact salvorref16_MayRegions.mono _ _
   | exact LeO.none _
   | refine LeO.ite ?_ ?_
   | refine LeO.bind ?_ (fun _ => ?_)
set_option maxHeartbeats 8000000 in
set_option maxRecDepth 100000 in
theorem salvorref16_End.calls (k : Nat) (A0 : Option Addr) (c0 : Nat) (l0 : List (S26)) (r : Int) (w : World) (hr0 : Kd.C k26 w A0 l0.length l0) (hc0 : l0.length ≤ c0) (h : salvorref16_End.f k l0 = some r) :
  Calls Try.prog 28 #[.slice A0 l0.length c0] w fun e w' => e = .returned (.int .i64 r) ∧ Below w.heap.size w w' := by
 have HR0 := Aside0.mk hr0
 have HC0 := Aside0.mk hc0
 clear hr0 hc0
 have HB := Aside0.mk (Below.refl w.heap.size w)
 have H : ((salvorref16_MayRegions.f k l0).bind fun t191 => (if t191 = true then (if (l0.length : Int) = 0 then (some 0) else (if 0 ≤ (wrap64 ((l0.length : Int) - 1)) then (if (wrap64 ((l0.length : Int) - 1)) < (l0.length : Int) then (some (wrap64 (((rd_T26 l0 (wrap64 ((l0.length : Int) - 1))).f0) + ((rd_T26 l0 (wrap64 ((l0.length : Int) - 1))).f1)))) else (none)) else (none))) else (some 0))) = some r := h
 clear h
 replace H := Option.bind_eq_some_iff.mp H
 obtain ⟨t191, A20, H⟩ := H
 replace H : (if t191 = true then (if (l0.length : Int) = 0 then (some 0) else (if 0 ≤ (wrap64 ((l0.length : Int) - 1)) then (if (wrap64 ((l0.length : Int) - 1)) < (l0.length : Int) then (some (wrap64 (((rd_T26 l0 (wrap64 ((l0.length : Int) - 1))).f0) + ((rd_T26 l0 (wrap64 ((l0.length : Int) - 1))).f1)))) else (none)) else (none))) else (some 0)) = some r := H
 have A2 := Aside0.mk A20
 clear A20
 by_cases c3 : t191 = true
 ·subst c3
  have H1 : (if (l0.length : Int) = 0 then (some 0) else (if 0 ≤ (wrap64 ((l0.length : Int) - 1)) then (if (wrap64 ((l0.length : Int) - 1)) < (l0.length : Int) then (some (wrap64 (((rd_T26 l0 (wrap64 ((l0.length : Int) - 1))).f0) + ((rd_T26 l0 (wrap64 ((l0.length : Int) - 1))).f1)))) else (none)) else (none))) = some r := by rw [if_pos rfl] at H; exact H
  clear H
  have H := H1
  clear H1
  by_cases c4 : (l0.length : Int) = 0
  ·rw [if_pos c4] at H
   have c4b0 : ((l0.length : Int) == 0) = true := beq_iff_eq.mpr c4
   have c4b1 : ((l0.length : Int) != 0) = false := bne_eq_false_iff_eq.mpr c4
   clear c4
   obtain rfl := Option.some.inj H
   go_enter Try.func28, Try.ntmps28
   go_wp2_with (first | (go_at_call 27; (with_reducible refine (salvorref16_MayRegions.calls k _ _ l0 true _ ?side1 ?side2 A2.out).mono ?_); (case side1 => repeat (first | exact HR0.out | (with_reducible refine Kd.C_alloc ?_ _) | (with_reducible refine Kd.C_drewN ?_ _) | (with_reducible refine Kd.C_drew ?_))); (case side2 => exact HC0.out); rintro e w5 ⟨rfl, hb⟩; replace HB := bs_ HB hb; (try clear hb)))
   repeat (go_quiet (first | (go_at_call 27; (with_reducible refine (salvorref16_MayRegions.calls k _ _ l0 true _ ?side1 ?side2 A2.out).mono ?_); (case side1 => repeat (first | exact HR0.out | (with_reducible refine Kd.C_alloc ?_ _) | (with_reducible refine Kd.C_drewN ?_ _) | (with_reducible refine Kd.C_drew ?_))); (case side2 => exact HC0.out); rintro e w5 ⟨rfl, hb⟩; replace HB := bs_ HB hb; (try clear hb))); try go_wp2_with (first | (go_at_call 27; (with_reducible refine (salvorref16_MayRegions.calls k _ _ l0 true _ ?side1 ?side2 A2.out).mono ?_); (case side1 => repeat (first | exact HR0.out | (with_reducible refine Kd.C_alloc ?_ _) | (with_reducible refine Kd.C_drewN ?_ _) | (with_reducible refine Kd.C_drew ?_))); (case side2 => exact HC0.out); rintro e w5 ⟨rfl, hb⟩; replace HB := bs_ HB hb; (try clear hb))))
   go_ret
   exact ⟨by first | rfl | (simp [errW_none, errW_some] <;> rfl) | (simp [*, errW_none, errW_some] <;> rfl), bh_ HB⟩
  ·rw [if_neg c4] at H
   have c4b0 : ((l0.length : Int) == 0) = false := beq_eq_false_iff_ne.mpr c4
   have c4b1 : ((l0.length : Int) != 0) = true := bne_iff_ne.mpr c4
   have c4b2 : ¬ (l0 = []) := fun h_ => c4 (by rw [h_]; rfl)
   obtain ⟨ji6, hji6⟩ : ∃ j_ : Int, (wrap64 ((l0.length : Int) - 1)) = j_ := ⟨_, rfl⟩
   replace H : (if 0 ≤ (ji6) then (if (ji6) < (l0.length : Int) then (some (wrap64 (((rd_T26 l0 (ji6)).f0) + ((rd_T26 l0 (ji6)).f1)))) else (none)) else (none)) = some r := by first | (rw [hji6] at H; exact H) | (simp only [hji6] at H ⊢; exact H)
   (try rw [hji6] at A2)
   have hji6w : (IntKind.i64.wrap ((l0.length : Int) - 1)) = ji6 := (i64_w _).trans hji6
   by_cases c7 : 0 ≤ (ji6)
   ·rw [if_pos c7] at H
    have c7b0 : decide (0 ≤ (ji6)) = true := decide_eq_true c7
    clear c7
    by_cases c8 : (ji6) < (l0.length : Int)
    ·rw [if_pos c8] at H
     have c8b0 : decide ((ji6) < (l0.length : Int)) = true := decide_eq_true c8
     clear c8
     obtain rfl := Option.some.inj H
     go_enter Try.func28, Try.ntmps28
     go_wp2_with (first | (go_at_call 27; (with_reducible refine (salvorref16_MayRegions.calls k _ _ l0 true _ ?side1 ?side2 A2.out).mono ?_); (case side1 => repeat (first | exact HR0.out | (with_reducible refine Kd.C_alloc ?_ _) | (with_reducible refine Kd.C_drewN ?_ _) | (with_reducible refine Kd.C_drew ?_))); (case side2 => exact HC0.out); rintro e w9 ⟨rfl, hb⟩; replace HB := bs_ HB hb; (try clear hb); have p192 : 0 ≤ ((ji6) : Int) := of_decide_eq_true (by first | (with_reducible assumption) | assumption); have q192 : (ji6) < (l0.length : Int) := of_decide_eq_true (by first | (with_reducible assumption) | assumption); obtain ⟨ad192, e192, hx192_0, hx192_1, hx192_2⟩ := at_T26 HR0.out (ji6) p192 q192; cases e192; replace hx192_0 := (HB.out.cell (World.block_lt_of_cell? w _ hx192_0)).trans hx192_0; replace hx192_1 := (HB.out.cell (World.block_lt_of_cell? w _ hx192_1)).trans hx192_1; replace hx192_2 := (HB.out.cell (World.block_lt_of_cell? w _ hx192_2)).trans hx192_2; replace p192 := eq_true p192; replace q192 := eq_true q192; have p193 : 0 ≤ ((ji6) : Int) := of_decide_eq_true (by first | (with_reducible assumption) | assumption); have q193 : (ji6) < (l0.length : Int) := of_decide_eq_true (by first | (with_reducible assumption) | assumption); obtain ⟨ad193, e193, hx193_0, hx193_1, hx193_2⟩ := at_T26 HR0.out (ji6) p193 q193; obtain rfl : ad192 = ad193 := (by injection e193); replace hx193_0 := (HB.out.cell (World.block_lt_of_cell? w _ hx193_0)).trans hx193_0; replace hx193_1 := (HB.out.cell (World.block_lt_of_cell? w _ hx193_1)).trans hx193_1; replace hx193_2 := (HB.out.cell (World.block_lt_of_cell? w _ hx193_2)).trans hx193_2; replace p193 := eq_true p193; replace q193 := eq_true q193))
     repeat (go_quiet (first | (go_at_call 27; (with_reducible refine (salvorref16_MayRegions.calls k _ _ l0 true _ ?side1 ?side2 A2.out).mono ?_); (case side1 => repeat (first | exact HR0.out | (with_reducible refine Kd.C_alloc ?_ _) | (with_reducible refine Kd.C_drewN ?_ _) | (with_reducible refine Kd.C_drew ?_))); (case side2 => exact HC0.out); rintro e w9 ⟨rfl, hb⟩; replace HB := bs_ HB hb; (try clear hb); have p192 : 0 ≤ ((ji6) : Int) := of_decide_eq_true (by first | (with_reducible assumption) | assumption); have q192 : (ji6) < (l0.length : Int) := of_decide_eq_true (by first | (with_reducible assumption) | assumption); obtain ⟨ad192, e192, hx192_0, hx192_1, hx192_2⟩ := at_T26 HR0.out (ji6) p192 q192; cases e192; replace hx192_0 := (HB.out.cell (World.block_lt_of_cell? w _ hx192_0)).trans hx192_0; replace hx192_1 := (HB.out.cell (World.block_lt_of_cell? w _ hx192_1)).trans hx192_1; replace hx192_2 := (HB.out.cell (World.block_lt_of_cell? w _ hx192_2)).trans hx192_2; replace p192 := eq_true p192; replace q192 := eq_true q192; have p193 : 0 ≤ ((ji6) : Int) := of_decide_eq_true (by first | (with_reducible assumption) | assumption); have q193 : (ji6) < (l0.length : Int) := of_decide_eq_true (by first | (with_reducible assumption) | assumption); obtain ⟨ad193, e193, hx193_0, hx193_1, hx193_2⟩ := at_T26 HR0.out (ji6) p193 q193; obtain rfl : ad192 = ad193 := (by injection e193); replace hx193_0 := (HB.out.cell (World.block_lt_of_cell? w _ hx193_0)).trans hx193_0; replace hx193_1 := (HB.out.cell (World.block_lt_of_cell? w _ hx193_1)).trans hx193_1; replace hx193_2 := (HB.out.cell (World.block_lt_of_cell? w _ hx193_2)).trans hx193_2; replace p193 := eq_true p193; replace q193 := eq_true q193)); try go_wp2_with (first | (go_at_call 27; (with_reducible refine (salvorref16_MayRegions.calls k _ _ l0 true _ ?side1 ?side2 A2.out).mono ?_); (case side1 => repeat (first | exact HR0.out | (with_reducible refine Kd.C_alloc ?_ _) | (with_reducible refine Kd.C_drewN ?_ _) | (with_reducible refine Kd.C_drew ?_))); (case side2 => exact HC0.out); rintro e w9 ⟨rfl, hb⟩; replace HB := bs_ HB hb; (try clear hb); have p192 : 0 ≤ ((ji6) : Int) := of_decide_eq_true (by first | (with_reducible assumption) | assumption); have q192 : (ji6) < (l0.length : Int) := of_decide_eq_true (by first | (with_reducible assumption) | assumption); obtain ⟨ad192, e192, hx192_0, hx192_1, hx192_2⟩ := at_T26 HR0.out (ji6) p192 q192; cases e192; replace hx192_0 := (HB.out.cell (World.block_lt_of_cell? w _ hx192_0)).trans hx192_0; replace hx192_1 := (HB.out.cell (World.block_lt_of_cell? w _ hx192_1)).trans hx192_1; replace hx192_2 := (HB.out.cell (World.block_lt_of_cell? w _ hx192_2)).trans hx192_2; replace p192 := eq_true p192; replace q192 := eq_true q192; have p193 : 0 ≤ ((ji6) : Int) := of_decide_eq_true (by first | (with_reducible assumption) | assumption); have q193 : (ji6) < (l0.length : Int) := of_decide_eq_true (by first | (with_reducible assumption) | assumption); obtain ⟨ad193, e193, hx193_0, hx193_1, hx193_2⟩ := at_T26 HR0.out (ji6) p193 q193; obtain rfl : ad192 = ad193 := (by injection e193); replace hx193_0 := (HB.out.cell (World.block_lt_of_cell? w _ hx193_0)).trans hx193_0; replace hx193_1 := (HB.out.cell (World.block_lt_of_cell? w _ hx193_1)).trans hx193_1; replace hx193_2 := (HB.out.cell (World.block_lt_of_cell? w _ hx193_2)).trans hx193_2; replace p193 := eq_true p193; replace q193 := eq_true q193)))
     go_ret
     exact ⟨by first | rfl | (simp [errW_none, errW_some] <;> rfl) | (simp only [← hji6]; first | rfl | (simp [errW_none, errW_some] <;> rfl)) | (simp [*, errW_none, errW_some] <;> rfl), bh_ HB⟩
    ·rw [if_neg c8] at H
     exact absurd H (by simp)
   ·rw [if_neg c7] at H
    exact absurd H (by simp)
 ·replace c3 := Bool.eq_false_iff.mpr c3
  subst c3
  have H1 : (some 0) = some r := by rw [if_neg (show ¬ (false = true) by decide)] at H; exact H
  clear H
  have H := H1
  clear H1
  obtain rfl := Option.some.inj H
  go_enter Try.func28, Try.ntmps28
  go_wp2_with (first | (go_at_call 27; (with_reducible refine (salvorref16_MayRegions.calls k _ _ l0 false _ ?side1 ?side2 A2.out).mono ?_); (case side1 => repeat (first | exact HR0.out | (with_reducible refine Kd.C_alloc ?_ _) | (with_reducible refine Kd.C_drewN ?_ _) | (with_reducible refine Kd.C_drew ?_))); (case side2 => exact HC0.out); rintro e w10 ⟨rfl, hb⟩; replace HB := bs_ HB hb; (try clear hb)))
  repeat (go_quiet (first | (go_at_call 27; (with_reducible refine (salvorref16_MayRegions.calls k _ _ l0 false _ ?side1 ?side2 A2.out).mono ?_); (case side1 => repeat (first | exact HR0.out | (with_reducible refine Kd.C_alloc ?_ _) | (with_reducible refine Kd.C_drewN ?_ _) | (with_reducible refine Kd.C_drew ?_))); (case side2 => exact HC0.out); rintro e w10 ⟨rfl, hb⟩; replace HB := bs_ HB hb; (try clear hb))); try go_wp2_with (first | (go_at_call 27; (with_reducible refine (salvorref16_MayRegions.calls k _ _ l0 false _ ?side1 ?side2 A2.out).mono ?_); (case side1 => repeat (first | exact HR0.out | (with_reducible refine Kd.C_alloc ?_ _) | (with_reducible refine Kd.C_drewN ?_ _) | (with_reducible refine Kd.C_drew ?_))); (case side2 => exact HC0.out); rintro e w10 ⟨rfl, hb⟩; replace HB := bs_ HB hb; (try clear hb))))
  go_ret
  exact ⟨by first | rfl | (simp [errW_none, errW_some] <;> rfl) | (simp [*, errW_none, errW_some] <;> rfl), bh_ HB⟩

/-! ### salvorref16_put: function 37 -/
def salvorref16_put.f (l0 : List (S26)) (a1 : Int) (a2 : Int) (a3 : Int) : Option ((List (S26))) := if a2 ≤ a1 then (some l0) else (if (l0.length : Int) > 0 then (if 0 ≤ (wrap64 ((l0.length : Int) - 1)) then (if (wrap64 ((l0.length : Int) - 1)) < (l0.length : Int) then (if ((rd_T26 l0 (wrap64 ((l0.length : Int) - 1))).f2) = a3 then (some (l0.set ((wrap64 ((l0.length : Int) - 1)) : Int).toNat (⟨(rd_T26 l0 (wrap64 ((l0.length : Int) - 1))).f0, wrap64 (((rd_T26 l0 (wrap64 ((l0.length : Int) - 1))).f1) + (wrap64 (a2 - a1))), (rd_T26 l0 (wrap64 ((l0.length : Int) - 1))).f2⟩ : S26))) else (if l0.length < 5864062014805 then (some (l0 ++ [(⟨a1, wrap64 (a2 - a1), a3⟩ : S26)])) else (none))) else (none)) else (none)) else (if l0.length < 5864062014805 then (some (l0 ++ [(⟨a1, wrap64 (a2 - a1), a3⟩ : S26)])) else (none)))
set_option maxHeartbeats 8000000 in
set_option maxRecDepth 100000 in
theorem salvorref16_put.calls (P0_ : Nat → Prop) (u9000_ : Value) (l0 : List (S26)) (a1 : Int) (a2 : Int) (a3 : Int) (r : List (S26)) (w0 w : World) (hB : Below w0.heap.size w0 w) (ho0 : Kd.R k26 26 w w0.heap.size P0_ u9000_ l0) (h : salvorref16_put.f l0 a1 a2 a3 = some r) :
  Calls Try.prog 37 #[u9000_, .int .i64 a1, .int .i64 a2, .int .u8 a3] w fun e w' => ∃ v0_ : Value, e = .returned (v0_) ∧ Kd.R k26 26 w' w0.heap.size (fun k_ => (P0_ k_ ∨ w.heap.size ≤ k_)) v0_ r ∧ Below w0.heap.size w0 w' ∧ Kept w w' (fun k_ => P0_ k_) := by
 have hu26 := Try.underlying26
 have HO0 := Aside0.mk (show Kd.R k26 26 w w0.heap.size (fun k_ => (P0_ k_ ∨ w.heap.size ≤ k_)) u9000_ l0 from Kd.R_mono ho0 (fun k_ hk => (.inl hk)))
 have HK := Aside0.mk (Kept.refl w (fun k_ => P0_ k_))
 have HW0 := Aside0.mk hB.size
 have HB := Aside0.mk hB
 clear hB
 have H : (if a2 ≤ a1 then (some l0) else (if (l0.length : Int) > 0 then (if 0 ≤ (wrap64 ((l0.length : Int) - 1)) then (if (wrap64 ((l0.length : Int) - 1)) < (l0.length : Int) then (if ((rd_T26 l0 (wrap64 ((l0.length : Int) - 1))).f2) = a3 then (some (l0.set ((wrap64 ((l0.length : Int) - 1)) : Int).toNat (⟨(rd_T26 l0 (wrap64 ((l0.length : Int) - 1))).f0, wrap64 (((rd_T26 l0 (wrap64 ((l0.length : Int) - 1))).f1) + (wrap64 (a2 - a1))), (rd_T26 l0 (wrap64 ((l0.length : Int) - 1))).f2⟩ : S26))) else (if l0.length < 5864062014805 then (some (l0 ++ [(⟨a1, wrap64 (a2 - a1), a3⟩ : S26)])) else (none))) else (none)) else (none)) else (if l0.length < 5864062014805 then (some (l0 ++ [(⟨a1, wrap64 (a2 - a1), a3⟩ : S26)])) else (none)))) = some r := h
 clear h
 by_cases c5 : a2 ≤ a1
 ·rw [if_pos c5] at H
  have c5b0 : decide (a2 ≤ a1) = true := decide_eq_true c5
  clear c5
  obtain rfl := Option.some.inj H
  go_enter Try.func37, Try.ntmps37
  go_wp2
  go_ret
  exact ⟨_, by first | rfl | (simp [errW_none, errW_some] <;> rfl) | (simp [*, errW_none, errW_some] <;> rfl), by (with_reducible repeat (first | apply Kd.R_alloc | apply Kd.R_drewN | apply Kd.R_drew)); exact HO0.out, by repeat (first | (with_reducible first | exact HB.out | apply below_alloc | apply pw_below_drewN | apply below_drew1) | exact HB.out), by repeat (first | (with_reducible first | exact HK.out | apply Kept.alloc | apply Kept.drewN | apply Kept.drew) | exact HK.out)⟩
 ·rw [if_neg c5] at H
  have c5b0 : decide (a2 ≤ a1) = false := decide_eq_false c5
  clear c5
  by_cases c6 : (l0.length : Int) > 0
  ·rw [if_pos c6] at H
   have c6b0 : decide (0 < (l0.length : Int)) = true := decide_eq_true c6
   have c6b1 : decide (0 < l0.length) = true := decide_eq_true (by omega)
   clear c6
   obtain ⟨ji7, hji7⟩ : ∃ j_ : Int, (wrap64 ((l0.length : Int) - 1)) = j_ := ⟨_, rfl⟩
   replace H : (if 0 ≤ (ji7) then (if (ji7) < (l0.length : Int) then (if ((rd_T26 l0 (ji7)).f2) = a3 then (some (l0.set ((ji7) : Int).toNat (⟨(rd_T26 l0 (ji7)).f0, wrap64 (((rd_T26 l0 (ji7)).f1) + (wrap64 (a2 - a1))), (rd_T26 l0 (ji7)).f2⟩ : S26))) else (if l0.length < 5864062014805 then (some (l0 ++ [(⟨a1, wrap64 (a2 - a1), a3⟩ : S26)])) else (none))) else (none)) else (none)) = some r := by first | (rw [hji7] at H; exact H) | (simp only [hji7] at H ⊢; exact H)
   have hji7w : (IntKind.i64.wrap ((l0.length : Int) - 1)) = ji7 := (i64_w _).trans hji7
   by_cases c8 : 0 ≤ (ji7)
   ·rw [if_pos c8] at H
    have c8b0 : decide (0 ≤ (ji7)) = true := decide_eq_true c8
    clear c8
    by_cases c9 : (ji7) < (l0.length : Int)
    ·rw [if_pos c9] at H
     have c9b0 : decide ((ji7) < (l0.length : Int)) = true := decide_eq_true c9
     clear c9
     by_cases c10 : ((rd_T26 l0 (ji7)).f2) = a3
     ·rw [if_pos c10] at H
      have c10b0 : (((rd_T26 l0 (ji7)).f2) == a3) = true := beq_iff_eq.mpr c10
      have c10b1 : (((rd_T26 l0 (ji7)).f2) != a3) = false := bne_eq_false_iff_eq.mpr c10
      clear c10
      obtain ⟨y196, hy196⟩ : ∃ y_ : List (S26), y_ = (l0.set ((ji7) : Int).toNat (⟨(rd_T26 l0 (ji7)).f0, wrap64 (((rd_T26 l0 (ji7)).f1) + (wrap64 (a2 - a1))), (rd_T26 l0 (ji7)).f2⟩ : S26)) := ⟨_, rfl⟩
      replace H : (some y196) = some r := by first | (rw [hy196]; with_reducible exact H) | (have H2_ := (Option.bind_some _ _).symm.trans H; rw [hy196]; with_reducible exact H2_) | (have H2_ := (Option.bind_some _ _).symm.trans H; with_reducible exact H2_) | with_reducible exact H | (rw [hy196]; exact H) | exact H
      have Ny196 := Aside0.mk hy196
      clear hy196
      obtain rfl := Option.some.inj H
      obtain ⟨Ao12, co12, eo12⟩ := Kd.R_slice HO0.out
      subst eo12
      have p194 : 0 ≤ ((ji7) : Int) := of_decide_eq_true (by first | (with_reducible assumption) | assumption)
      have q194 : (ji7) < (l0.length : Int) := of_decide_eq_true (by first | (with_reducible assumption) | assumption)
      obtain ⟨ad194, e194, hx194_0, hx194_1, hx194_2⟩ := at_T26 (Kd.R_reads' HO0.out).2.2 (ji7) p194 q194
      cases e194
      replace p194 := eq_true p194
      replace q194 := eq_true q194
      have p195 : 0 ≤ ((ji7) : Int) := of_decide_eq_true (by first | (with_reducible assumption) | assumption)
      have q195 : (ji7) < (l0.length : Int) := of_decide_eq_true (by first | (with_reducible assumption) | assumption)
      obtain ⟨ad195, e195, hx195_0, hx195_1, hx195_2⟩ := at_T26 (Kd.R_reads' HO0.out).2.2 (ji7) p195 q195
      obtain rfl : ad194 = ad195 := (by injection e195)
      replace p195 := eq_true p195
      replace q195 := eq_true q195
      have p11 : 0 ≤ ((ji7) : Int) := of_decide_eq_true (by first | (with_reducible assumption) | assumption)
      have q11 : ((ji7) : Int) < ((l0.length : Int) : Int) := of_decide_eq_true (by first | (with_reducible assumption) | assumption)
      obtain ⟨go11, co11, eo11, gb11, gl11, cl11, HG11⟩ := Kd.R_form HO0.out (by omega)
      (first | cases eo11 | (injection eo11 with ea_ en_ ec_; (first | subst ea_ | (injection ea_ with ea_; subst ea_)); subst ec_; clear en_))
      have GB11 := Aside0.mk gb11
      have GG11 := Aside0.mk HG11
      clear gb11 gl11 HG11
      have HMgo11 := Aside0.mk (show (P0_ go11 ∨ w.heap.size ≤ go11) from (HO0.out.1 _ rfl))
      (first | simp only [add_plain] at hx194_0 | skip)
      (first | simp only [add_plain] at hx194_1 | skip)
      (first | simp only [add_plain] at hx194_2 | skip)
      (first | simp only [add_plain] at hx195_0 | skip)
      (first | simp only [add_plain] at hx195_1 | skip)
      (first | simp only [add_plain] at hx195_2 | skip)
      obtain ⟨ce11, hcl11, hM11, hcc11, hfr11⟩ := Kd.R_elem HO0.out z26 ((ji7) : Int) p11 q11
      obtain rfl := k26_openM hM11
      have hx11_0 : w.cell? ⟨go11, ((ji7) : Int).toNat * 3, none⟩ = some (.int .i64 ((rd_T26 l0 (ji7)).f0)) := hcc11 0 _ rfl
      have hx11_1 : w.cell? ⟨go11, ((ji7) : Int).toNat * 3 + 1, none⟩ = some (.int .i64 ((rd_T26 l0 (ji7)).f1)) := hcc11 1 _ rfl
      have hx11_2 : w.cell? ⟨go11, ((ji7) : Int).toNat * 3 + 2, none⟩ = some (.int .u8 ((rd_T26 l0 (ji7)).f2)) := hcc11 2 _ rfl
      have hf11_0 : w.frozen? ⟨go11, ((ji7) : Int).toNat * 3, none⟩ = false := hfr11 0
      have hf11_1 : w.frozen? ⟨go11, ((ji7) : Int).toNat * 3 + 1, none⟩ = false := hfr11 1
      have hf11_2 : w.frozen? ⟨go11, ((ji7) : Int).toNat * 3 + 2, none⟩ = false := hfr11 2
      clear hcl11 hcc11 hfr11 hM11
      replace p11 := eq_true p11
      replace q11 := eq_true q11
      have HX13 := Aside0.mk (show Kd.R k26 26 w w0.heap.size (fun k_ => (P0_ k_ ∨ w.heap.size ≤ k_)) (.slice (some ⟨go11, 0, none⟩) l0.length co12) l0 from (by (with_reducible repeat (first | apply Kd.R_alloc | apply Kd.R_drewN | apply Kd.R_drew)); exact HO0.out))
      obtain ⟨ce13, hcl13, hM13, hcc13, hfr13⟩ := Kd.R_elem HX13.out z26 ((ji7) : Int) (of_decide_eq_true (by first | (with_reducible assumption) | assumption)) (by have h_ : ((ji7) : Int) < ((l0.length : Int) : Int) := of_decide_eq_true (by first | (with_reducible assumption) | assumption); first | exact h_ | (have e_ := (Kd.R_reads' HO0.out).1; omega) | simpa using h_)
      obtain rfl := k26_openM hM13
      have HP13 := Kd.R_seg HX13.out ((ji7) : Int) (of_decide_eq_true (by first | (with_reducible assumption) | assumption)) (by have h_ : ((ji7) : Int) < ((l0.length : Int) : Int) := of_decide_eq_true (by first | (with_reducible assumption) | assumption); first | exact h_ | (have e_ := (Kd.R_reads' HO0.out).1; omega) | simpa using h_) (seg := [.int .i64 (wrap64 (((rd_T26 l0 (ji7)).f1) + (wrap64 (a2 - a1))))]) (j := 1) hcl13 hcc13 (show 2 ≤ 3 from by decide) (x' := (⟨(rd_T26 l0 (ji7)).f0, wrap64 (((rd_T26 l0 (ji7)).f1) + (wrap64 (a2 - a1))), (rd_T26 l0 (ji7)).f2⟩ : S26)) (k26_mkM _ _ _ (⟨(rd_T26 l0 (ji7)).f0, wrap64 (((rd_T26 l0 (ji7)).f1) + (wrap64 (a2 - a1))), (rd_T26 l0 (ji7)).f2⟩ : S26) ) (fun _ hk => hk)
      have hx13_1 := hcc13 1 _ rfl
      (try simp only [show (k26).sz = 3 from rfl, Nat.mul_one, Nat.add_zero] at hx13_1)
      have hf13_1 := hfr13 1
      (try simp only [show (k26).sz = 3 from rfl, Nat.mul_one, Nat.add_zero] at hf13_1)
      clear hcl13 hcc13 hfr13 hM13
      go_enter Try.func37, Try.ntmps37
      go_wp2_with (first | ((with_reducible refine gate_store (t := 3) (p := 39) rfl ?_); refine store_event (t := 3) (p := 39) (v := ?vo_w14) (w1 := (w.setCell ⟨go11, ((ji7) : Int).toNat * 3 + 1, none⟩ (.int .i64 (wrap64 (((rd_T26 l0 (ji7)).f1) + (wrap64 (a2 - a1))))))) ?hg ?ho ?hn ?hr ?_; (case ho => rfl); (case hg => rfl); (case hn => rfl); (case hr => first | (go_simp; done) | (go_simp; rfl)); intro w14 hw; have hg : w.grownBy w14 (some go11) := (by rw [hw]; exact HP13.2); have hp_ : Kd.R k26 26 w14 w0.heap.size (fun k_ => (P0_ k_ ∨ w.heap.size ≤ k_)) (.slice (some ⟨go11, 0, none⟩) l0.length co12) y196 := (by rw [hw, Ny196.out]; exact HP13.1); clear HP13; have n0_ := Aside0.mk (hp_); have n1_ := Aside0.mk ((by rw [hw]; exact below_set (HB.out) GB11.out : Below w0.heap.size w0 w14)); have n2_ := Aside0.mk (Kept.of_grown (S := (fun k_ => P0_ k_)) hg (by repeat (first | (with_reducible first | exact HK.out | apply Kept.alloc | apply Kept.drewN | apply Kept.drew) | exact HK.out)) (fun k_ e_ => (HO0.out.1 k_ e_))); clear HO0; clear HB; clear HK; have HO0 := n0_; have HB := n1_; have HK := n2_; clear n0_ n1_ n2_; clear hg hw hp_))
      go_ret
      exact ⟨_, by first | rfl | (simp [errW_none, errW_some] <;> rfl) | (simp only [← hji7]; first | rfl | (simp [errW_none, errW_some] <;> rfl)) | (simp [*, errW_none, errW_some] <;> rfl), by (with_reducible repeat (first | apply Kd.R_alloc | apply Kd.R_drewN | apply Kd.R_drew)); exact HO0.out, by repeat (first | (with_reducible first | exact HB.out | apply below_alloc | apply pw_below_drewN | apply below_drew1) | exact HB.out), by repeat (first | (with_reducible first | exact HK.out | apply Kept.alloc | apply Kept.drewN | apply Kept.drew) | exact HK.out)⟩
     ·rw [if_neg c10] at H
      have c10b0 : (((rd_T26 l0 (ji7)).f2) == a3) = false := beq_eq_false_iff_ne.mpr c10
      have c10b1 : (((rd_T26 l0 (ji7)).f2) != a3) = true := bne_iff_ne.mpr c10
      by_cases c15 : l0.length < 5864062014805
      ·rw [if_pos c15] at H
       have LMc15 := Aside0.mk c15
       clear c15
       obtain ⟨y197, hy197⟩ : ∃ y_ : List (S26), y_ = (l0 ++ [(⟨a1, wrap64 (a2 - a1), a3⟩ : S26)]) := ⟨_, rfl⟩
       replace H : (some y197) = some r := by first | (rw [hy197]; with_reducible exact H) | (have H2_ := (Option.bind_some _ _).symm.trans H; rw [hy197]; with_reducible exact H2_) | (have H2_ := (Option.bind_some _ _).symm.trans H; with_reducible exact H2_) | with_reducible exact H | (rw [hy197]; exact H) | exact H
       have Ny197 := Aside0.mk hy197
       clear hy197
       obtain rfl := Option.some.inj H
       obtain ⟨Ao16, co16, eo16⟩ := Kd.R_slice HO0.out
       subst eo16
       have p194 : 0 ≤ ((ji7) : Int) := of_decide_eq_true (by first | (with_reducible assumption) | assumption)
       have q194 : (ji7) < (l0.length : Int) := of_decide_eq_true (by first | (with_reducible assumption) | assumption)
       obtain ⟨ad194, e194, hx194_0, hx194_1, hx194_2⟩ := at_T26 (Kd.R_reads' HO0.out).2.2 (ji7) p194 q194
       cases e194
       replace p194 := eq_true p194
       replace q194 := eq_true q194
       go_enter Try.func37, Try.ntmps37
       go_wp2_with (first | ((with_reducible refine gate_builtin (b := .append) (xs := #[.tmp 41, .tmp 48]) rfl ?_); (try (refine gate_guard (by rfl) ?_; dsimp only)); at_builtin; refine Kd.R_append k26 (w0 := w0) w0.heap.size rfl (.tmp 41) (.tmp 48) 22 26 (.agg #[(.int .i64 0), (.int .i64 0), (.int .u8 0)]) 24 rfl Try.underlying22 info26 rfl (by decide) (by omega) (.slice (some ad194) l0.length co16) l0 (⟨a1, wrap64 (a2 - a1), a3⟩ : S26) [.int .i64 a1, .int .i64 (wrap64 (a2 - a1)), .int .u8 a3] (fun k_ => (P0_ k_ ∨ w.heap.size ≤ k_)) (fun _ => False) rfl rfl ?aP (fun _ hk => hk.elim) ?aF ?aO ?aB ?aS ?aL ?_; (case aP => exact k26_mkM _ _ _ (⟨a1, wrap64 (a2 - a1), a3⟩ : S26)); (case aB => exact (bh_ HB)); (case aF => exact (fun k_ hk => (.inr (Nat.le_trans (by first | exact HK.out.1 | exact (show Kept w _ (fun k_ => P0_ k_) from by repeat (first | (with_reducible first | exact HK.out | apply Kept.alloc | apply Kept.drewN | apply Kept.drew) | exact HK.out)).1) hk)))); (case aO => exact (by (with_reducible repeat (first | apply Kd.R_alloc | apply Kd.R_drewN | apply Kd.R_drew)); exact HO0.out)); (case aS => exact (below_size (bh_ HB))); (case aL => have := LMc15.out; omega); intro v198 w17 ho hb hg hat; rw [← Ny197.out] at ho; have HO199 := Aside0.mk (ho); replace HB := Aside0.mk (hb); replace HK := Aside0.mk (Kept.of_grown (S := (fun k_ => P0_ k_)) hg (by repeat (first | (with_reducible first | exact HK.out | apply Kept.alloc | apply Kept.drewN | apply Kept.drew) | exact HK.out)) (fun k_ e_ => (HO0.out.1 k_ e_))); clear HO0; clear ho hb hg hat))
       go_ret
       exact ⟨_, by first | rfl | (simp [errW_none, errW_some] <;> rfl) | (simp only [← hji7]; first | rfl | (simp [errW_none, errW_some] <;> rfl)) | (simp [*, errW_none, errW_some] <;> rfl), by (with_reducible repeat (first | apply Kd.R_alloc | apply Kd.R_drewN | apply Kd.R_drew)); exact HO199.out, by repeat (first | (with_reducible first | exact HB.out | apply below_alloc | apply pw_below_drewN | apply below_drew1) | exact HB.out), by repeat (first | (with_reducible first | exact HK.out | apply Kept.alloc | apply Kept.drewN | apply Kept.drew) | exact HK.out)⟩
      ·rw [if_neg c15] at H
       exact absurd H (by simp)
    ·rw [if_neg c9] at H
     exact absurd H (by simp)
   ·rw [if_neg c8] at H
    exact absurd H (by simp)
  ·rw [if_neg c6] at H
   have c6b0 : decide (0 < (l0.length : Int)) = false := decide_eq_false c6
   have c6b1 : decide (0 < l0.length) = false := decide_eq_false (by omega)
   clear c6
   by_cases c18 : l0.length < 5864062014805
   ·rw [if_pos c18] at H
    have LMc18 := Aside0.mk c18
    clear c18
    obtain ⟨y200, hy200⟩ : ∃ y_ : List (S26), y_ = (l0 ++ [(⟨a1, wrap64 (a2 - a1), a3⟩ : S26)]) := ⟨_, rfl⟩
    replace H : (some y200) = some r := by first | (rw [hy200]; with_reducible exact H) | (have H2_ := (Option.bind_some _ _).symm.trans H; rw [hy200]; with_reducible exact H2_) | (have H2_ := (Option.bind_some _ _).symm.trans H; with_reducible exact H2_) | with_reducible exact H | (rw [hy200]; exact H) | exact H
    have Ny200 := Aside0.mk hy200
    clear hy200
    obtain rfl := Option.some.inj H
    obtain ⟨Ao19, co19, eo19⟩ := Kd.R_slice HO0.out
    subst eo19
    go_enter Try.func37, Try.ntmps37
    go_wp2_with (first | ((with_reducible refine gate_builtin (b := .append) (xs := #[.tmp 41, .tmp 48]) rfl ?_); (try (refine gate_guard (by rfl) ?_; dsimp only)); at_builtin; refine Kd.R_append k26 (w0 := w0) w0.heap.size rfl (.tmp 41) (.tmp 48) 22 26 (.agg #[(.int .i64 0), (.int .i64 0), (.int .u8 0)]) 24 rfl Try.underlying22 info26 rfl (by decide) (by omega) (.slice Ao19 l0.length co19) l0 (⟨a1, wrap64 (a2 - a1), a3⟩ : S26) [.int .i64 a1, .int .i64 (wrap64 (a2 - a1)), .int .u8 a3] (fun k_ => (P0_ k_ ∨ w.heap.size ≤ k_)) (fun _ => False) rfl rfl ?aP (fun _ hk => hk.elim) ?aF ?aO ?aB ?aS ?aL ?_; (case aP => exact k26_mkM _ _ _ (⟨a1, wrap64 (a2 - a1), a3⟩ : S26)); (case aB => exact (bh_ HB)); (case aF => exact (fun k_ hk => (.inr (Nat.le_trans (by first | exact HK.out.1 | exact (show Kept w _ (fun k_ => P0_ k_) from by repeat (first | (with_reducible first | exact HK.out | apply Kept.alloc | apply Kept.drewN | apply Kept.drew) | exact HK.out)).1) hk)))); (case aO => exact (by (with_reducible repeat (first | apply Kd.R_alloc | apply Kd.R_drewN | apply Kd.R_drew)); exact HO0.out)); (case aS => exact (below_size (bh_ HB))); (case aL => have := LMc18.out; omega); intro v201 w20 ho hb hg hat; rw [← Ny200.out] at ho; have HO202 := Aside0.mk (ho); replace HB := Aside0.mk (hb); replace HK := Aside0.mk (Kept.of_grown (S := (fun k_ => P0_ k_)) hg (by repeat (first | (with_reducible first | exact HK.out | apply Kept.alloc | apply Kept.drewN | apply Kept.drew) | exact HK.out)) (fun k_ e_ => (HO0.out.1 k_ e_))); clear HO0; clear ho hb hg hat))
    go_ret
    exact ⟨_, by first | rfl | (simp [errW_none, errW_some] <;> rfl) | (simp [*, errW_none, errW_some] <;> rfl), by (with_reducible repeat (first | apply Kd.R_alloc | apply Kd.R_drewN | apply Kd.R_drew)); exact HO202.out, by repeat (first | (with_reducible first | exact HB.out | apply below_alloc | apply pw_below_drewN | apply below_drew1) | exact HB.out), by repeat (first | (with_reducible first | exact HK.out | apply Kept.alloc | apply Kept.drewN | apply Kept.drew) | exact HK.out)⟩
   ·rw [if_neg c18] at H
    exact absurd H (by simp)

end Go.Proofs.Ytjgkfnbfjamccaa.P
