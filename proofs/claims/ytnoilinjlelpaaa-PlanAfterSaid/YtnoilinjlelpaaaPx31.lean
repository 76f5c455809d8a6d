/- Laid by a program of this session's own (wip/wprint.py, over the kit's print.py): functions of the given program as plain Lean functions, and that the program's calls come to their answers. -/
import Derived.Test.YtnoilinjlelpaaaPx0
import Derived.Test.YtnoilinjlelpaaaPx21
import Derived.Test.YtnoilinjlelpaaaPx22
import Derived.Test.YtnoilinjlelpaaaPx23
import Derived.Test.YtnoilinjlelpaaaPx30
namespace Go.Proofs.Ytnoilinjlelpaaa.P
open Go.RowKit Go.Proofs.YtnoilinjlelpaaaW.PrintWords Go.Proofs.YtnoilinjlelpaaaW.PrintLast Go.Proofs.YtnoilinjlelpaaaW.PrintMore
attribute [local go_sem] max2_int min2_int max_two min_two max_three min_three max_four min_four   -- for this text's walks alone
set_option linter.unusedVariables false
set_option linter.unusedSimpArgs false

/-! ### salvorref16_Set: function 42 -/
mutual
def salvorref16_Set.j0 : Nat → List (S33) → Int → Int → Int → Bool → Option ((List (S33)))
 | 0, _, _, _, _, _ => none
 | k + 1, x0, x1, x2, x3, x31 => if x31 = true then (if ([] : List (S33)).length + x0.length < 5864062014805 then (some (([] : List (S33)) ++ x0)) else (none)) else ((salvorref16_End.f k x0).bind fun t425 => (salvorref16_Set.l0 k x0 x3 (mn x1 t425) (wrap64 ((mn x1 t425) + (mn x2 (wrap64 (t425 - (mn x1 t425)))))) ([] : List (S33)) 0))
def salvorref16_Set.l0 : Nat → List (S33) → Int → Int → Int → List (S33) → Int → Option ((List (S33)))
 | 0, _, _, _, _, _, _ => none
 | k + 1, x0, x3, x10, x11, x12, x13 => if x13 < (x0.length : Int) then (if 0 ≤ x13 then ((salvorref16_put.f x12 ((rd_T33 x0 x13).f0) (mn (wrap64 (((rd_T33 x0 x13).f0) + ((rd_T33 x0 x13).f1))) x10) ((rd_T33 x0 x13).f2)).bind fun t430 => ((salvorref16_put.f t430 (mx ((rd_T33 x0 x13).f0) x10) (mn (wrap64 (((rd_T33 x0 x13).f0) + ((rd_T33 x0 x13).f1))) x11) x3).bind fun t433 => ((salvorref16_put.f t433 (mx ((rd_T33 x0 x13).f0) x11) (wrap64 (((rd_T33 x0 x13).f0) + ((rd_T33 x0 x13).f1))) ((rd_T33 x0 x13).f2)).bind fun t437 => (salvorref16_Set.l0 k x0 x3 x10 x11 t437 (wrap64 (x13 + 1)))))) else (none)) else (some x12)
end
def salvorref16_Set.f (k : Nat) (l0 : List (S33)) (a1 : Int) (a2 : Int) (a3 : Int) : Option ((List (S33))) := (salvorref16_MayRegions.f k l0).bind fun t420 => (if t420 = true then (if a1 < 0 then (salvorref16_Set.j0 k l0 a1 a2 a3 true) else (if a2 < 0 then (salvorref16_Set.j0 k l0 a1 a2 a3 true) else ((salvorref16_status.f a3).bind fun t421 => (salvorref16_Set.j0 k l0 a1 a2 a3 (!t421))))) else (salvorref16_Set.j0 k l0 a1 a2 a3 true))
theorem salvorref16_Set.mono_l : ∀ k, (∀ y0 y1 y2 y3 y4, LeO (salvorref16_Set.j0 k y0 y1 y2 y3 y4) (salvorref16_Set.j0 (k + 1) y0 y1 y2 y3 y4)) ∧ (∀ y0 y1 y2 y3 y4 y5, LeO (salvorref16_Set.l0 k y0 y1 y2 y3 y4 y5) (salvorref16_Set.l0 (k + 1) y0 y1 y2 y3 y4 y5))
 | 0 => ⟨fun _ _ _ _ _ r h => by simp [salvorref16_Set.j0] at h, fun _ _ _ _ _ _ r h => by simp [salvorref16_Set.l0] at h⟩
 | k + 1 => by
  obtain ⟨ih0, ih1⟩ := salvorref16_Set.mono_l k
  refine ⟨?_, ?_⟩
  all_goals intros
  all_goals first | unfold salvorref16_Set.j0 | unfold salvorref16_Set.l0
  all_goals repeat' first | (with_reducible exact ih0 _ _ _ _ _) | (with_reducible exact ih1 _ _ _ _ _ _) | (with_reducible exact salvorref16_End.mono _ _) | (with_reducible exact salvorref16_MayRegions.mono _ _) | (with_reducible exact LeO.refl _) | (with_reducible exact LeO.none _) | (with_reducible refine LeO.ite ?_ ?_) | (with_reducible refine LeO.bind ?_ (fun _ => ?_)) | exact ih0 _ _ _ _ _ | exact ih1 _ _ _ _ _ _ | exact salvorref16_End.mono _ _ | exact salvorref16_MayRegions.mono _ _ | exact LeO.none _ | refine LeO.ite ?_ ?_ | refine LeO.bind ?_ (fun _ => ?_)
theorem salvorref16_Set.mono : ∀ a0 a1 a2 a3 k, LeO (salvorref16_Set.f k a0 a1 a2 a3) (salvorref16_Set.f (k + 1) a0 a1 a2 a3) := by
 intro a0 a1 a2 a3 k
 obtain ⟨ih0, ih1⟩ := salvorref16_Set.mono_l k
 unfold salvorref16_Set.f
 repeat' first
   | (with_reducible exact ih0 _ _ _ _ _)
   | (with_reducible exact ih1 _ _ _ _ _ _)
   | (with_reducible exact salvorref16_End.mono _ _)
   | (with_reducible exact salvorref16_MayRegions.mono _ _)
   | (with_reducible exact LeO.refl _)
   | (with_reducible exact LeO.none _)
   | (with_reducible refine LeO.ite ?_ ?_)
   | (with_reducible refine LeO.bind ?_ (fun _ => ?_))
   | exact ih0 _ _ _ _ _
   | exact ih1 _ _ _ _ _ _
   | exact salvorref16_End.mono _ _
   | exact salvorref16_MayRegions.mono _ _
   | exact LeO.none _
   | refine LeO.ite ?_ ?_
   | refine LeO.bind ?_ (fun _ => ?_)
set_option maxHeartbeats 8000000 in
set_option maxRecDepth 100000 in
theorem salvorref16_Set.calls (k : Nat) (A0 : Option Addr) (c0 : Nat) (l0 : List (S33)) (a1 : Int) (a2 : Int) (a3 : Int) (r : List (S33)) (w : World) (hr0 : Kd.C k33 w A0 l0.length l0) (hc0 : l0.length ≤ c0) (h : salvorref16_Set.f k l0 a1 a2 a3 = some r) :
  Calls Try.prog 42 #[.slice A0 l0.length c0, .int .i64 a1, .int .i64 a2, .int .u8 a3] w fun e w' => ∃ v0_ : Value, e = .returned (v0_) ∧ Kd.R k33 33 w' w.heap.size (fun _ => True) v0_ r ∧ Below w.heap.size w w' := by
 have HR0 := Aside0.mk hr0; have HC0 := Aside0.mk hc0; clear hr0 hc0
 have HB := Aside0.mk (Below.refl w.heap.size w)
 have H : ((salvorref16_MayRegions.f k l0).bind fun t420 => (if t420 = true then (if a1 < 0 then (salvorref16_Set.j0 k l0 a1 a2 a3 true) else (if a2 < 0 then (salvorref16_Set.j0 k l0 a1 a2 a3 true) else ((salvorref16_status.f a3).bind fun t421 => (salvorref16_Set.j0 k l0 a1 a2 a3 (!t421))))) else (salvorref16_Set.j0 k l0 a1 a2 a3 true))) = some r := h
 clear h; have HC5 := Aside0.mk H; clear H
 go_enter Try.func42, Try.ntmps42
 go_upto_region 1 with (fail)
 repeat (go_quiet (fail); go_upto_region 1 with (fail))
 go_cut [31] (fun v31 wc => ∃ (kq : Nat) (x31_4 : Bool), v31 = .bool x31_4 ∧ Aside0 (salvorref16_Set.j0 kq l0 a1 a2 a3 x31_4 = some r) ∧ Aside0 (kq ≤ k) ∧ Aside0 (Below w.heap.size w wc))
 case first =>
  have H := HC5.out; clear HC5; replace H := Option.bind_eq_some_iff.mp H; obtain ⟨t420, A60, H⟩ := H
  replace H : (if t420 = true then (if a1 < 0 then (salvorref16_Set.j0 k l0 a1 a2 a3 true) else (if a2 < 0 then (salvorref16_Set.j0 k l0 a1 a2 a3 true) else ((salvorref16_status.f a3).bind fun t421 => (salvorref16_Set.j0 k l0 a1 a2 a3 (!t421))))) else (salvorref16_Set.j0 k l0 a1 a2 a3 true)) = some r := H
  have A6 := Aside0.mk A60; clear A60
  by_cases c7 : t420 = true
  ·subst c7
   have H1 : (if a1 < 0 then (salvorref16_Set.j0 k l0 a1 a2 a3 true) else (if a2 < 0 then (salvorref16_Set.j0 k l0 a1 a2 a3 true) else ((salvorref16_status.f a3).bind fun t421 => (salvorref16_Set.j0 k l0 a1 a2 a3 (!t421))))) = some r := by rw [if_pos rfl] at H; exact H
   clear H; have H := H1; clear H1
   by_cases c8 : a1 < 0
   ·rw [if_pos c8] at H
    have c8b0 : decide (a1 < 0) = true := decide_eq_true c8
    clear c8
    (first | rw [c8b0] | (simp only [i64_w, i32_w]; rw [c8b0]) | skip)
    have H' := Aside0.mk H
    clear H
    go_wp2_with (first | (go_at_call 59; (with_reducible refine (salvorref16_MayRegions.calls k _ _ l0 true _ ?side1 ?side2 A6.out).mono ?_); (case side1 => exact cb_ HR0 HB); (case side2 => exact HC0.out); rintro e w9 ⟨rfl, hb⟩; replace HB := bs_ HB hb; (try clear hb)))
    repeat (go_quiet (first | (go_at_call 59; (with_reducible refine (salvorref16_MayRegions.calls k _ _ l0 true _ ?side1 ?side2 A6.out).mono ?_); (case side1 => exact cb_ HR0 HB); (case side2 => exact HC0.out); rintro e w9 ⟨rfl, hb⟩; replace HB := bs_ HB hb; (try clear hb))); try go_wp2_with (first | (go_at_call 59; (with_reducible refine (salvorref16_MayRegions.calls k _ _ l0 true _ ?side1 ?side2 A6.out).mono ?_); (case side1 => exact cb_ HR0 HB); (case side2 => exact HC0.out); rintro e w9 ⟨rfl, hb⟩; replace HB := bs_ HB hb; (try clear hb))))
    go_meet
    case rel => exact ⟨_, (true), (by first | rfl | (simp; done) | (simp [*]; done)), H', ⟨by first | omega | exact Nat.le_refl _⟩, ⟨bh_ HB⟩⟩
   ·rw [if_neg c8] at H
    have c8b0 : decide (a1 < 0) = false := decide_eq_false c8
    clear c8
    (first | rw [c8b0] | (simp only [i64_w, i32_w]; rw [c8b0]) | skip)
    by_cases c10 : a2 < 0
    ·rw [if_pos c10] at H
     have c10b0 : decide (a2 < 0) = true := decide_eq_true c10
     clear c10
     have H' := Aside0.mk H
     clear H
     go_wp2_with (first | (go_at_call 59; (with_reducible refine (salvorref16_MayRegions.calls k _ _ l0 true _ ?side1 ?side2 A6.out).mono ?_); (case side1 => exact cb_ HR0 HB); (case side2 => exact HC0.out); rintro e w11 ⟨rfl, hb⟩; replace HB := bs_ HB hb; (try clear hb)))
     repeat (go_quiet (first | (go_at_call 59; (with_reducible refine (salvorref16_MayRegions.calls k _ _ l0 true _ ?side1 ?side2 A6.out).mono ?_); (case side1 => exact cb_ HR0 HB); (case side2 => exact HC0.out); rintro e w11 ⟨rfl, hb⟩; replace HB := bs_ HB hb; (try clear hb))); try go_wp2_with (first | (go_at_call 59; (with_reducible refine (salvorref16_MayRegions.calls k _ _ l0 true _ ?side1 ?side2 A6.out).mono ?_); (case side1 => exact cb_ HR0 HB); (case side2 => exact HC0.out); rintro e w11 ⟨rfl, hb⟩; replace HB := bs_ HB hb; (try clear hb))))
     go_meet
     case rel => exact ⟨_, (true), (by first | rfl | (simp; done) | (simp [*]; done)), H', ⟨by first | omega | exact Nat.le_refl _⟩, ⟨bh_ HB⟩⟩
    ·rw [if_neg c10] at H
     have c10b0 : decide (a2 < 0) = false := decide_eq_false c10
     clear c10; replace H := Option.bind_eq_some_iff.mp H; obtain ⟨t421, A120, H⟩ := H
     replace H : (salvorref16_Set.j0 k l0 a1 a2 a3 (!t421)) = some r := H
     have A12 := Aside0.mk A120; clear A120
     have H' := Aside0.mk H
     clear H
     go_wp2_with (first | (go_at_call 59; (with_reducible refine (salvorref16_MayRegions.calls k _ _ l0 true _ ?side1 ?side2 A6.out).mono ?_); (case side1 => exact cb_ HR0 HB); (case side2 => exact HC0.out); rintro e w13 ⟨rfl, hb⟩; replace HB := bs_ HB hb; (try clear hb)) | (go_at_call 61; (with_reducible refine (salvorref16_status.calls a3 t421 _ A12.out).mono ?_); rintro e w' ⟨rfl, ⟨nd, rfl⟩⟩; (try first | exact ⟨rfl, _, World.drewN_drewN _ _ _⟩ | exact ⟨rfl, _, Eq.trans (World.drewN_drewN _ _ _) (congrArg (World.drewN _) (Nat.add_assoc _ _ _))⟩)))
     repeat (go_quiet (first | (go_at_call 59; (with_reducible refine (salvorref16_MayRegions.calls k _ _ l0 true _ ?side1 ?side2 A6.out).mono ?_); (case side1 => exact cb_ HR0 HB); (case side2 => exact HC0.out); rintro e w13 ⟨rfl, hb⟩; replace HB := bs_ HB hb; (try clear hb)) | (go_at_call 61; (with_reducible refine (salvorref16_status.calls a3 t421 _ A12.out).mono ?_); rintro e w' ⟨rfl, ⟨nd, rfl⟩⟩; (try first | exact ⟨rfl, _, World.drewN_drewN _ _ _⟩ | exact ⟨rfl, _, Eq.trans (World.drewN_drewN _ _ _) (congrArg (World.drewN _) (Nat.add_assoc _ _ _))⟩))); try go_wp2_with (first | (go_at_call 59; (with_reducible refine (salvorref16_MayRegions.calls k _ _ l0 true _ ?side1 ?side2 A6.out).mono ?_); (case side1 => exact cb_ HR0 HB); (case side2 => exact HC0.out); rintro e w13 ⟨rfl, hb⟩; replace HB := bs_ HB hb; (try clear hb)) | (go_at_call 61; (with_reducible refine (salvorref16_status.calls a3 t421 _ A12.out).mono ?_); rintro e w' ⟨rfl, ⟨nd, rfl⟩⟩; (try first | exact ⟨rfl, _, World.drewN_drewN _ _ _⟩ | exact ⟨rfl, _, Eq.trans (World.drewN_drewN _ _ _) (congrArg (World.drewN _) (Nat.add_assoc _ _ _))⟩))))
     go_meet
     case rel => exact ⟨_, (!t421), (by first | rfl | (simp; done) | (simp [*]; done)), H', ⟨by first | omega | exact Nat.le_refl _⟩, ⟨bh_ HB⟩⟩
  ·replace c7 := Bool.eq_false_iff.mpr c7
   subst c7
   have H1 : (salvorref16_Set.j0 k l0 a1 a2 a3 true) = some r := by rw [if_neg (show ¬ (false = true) by decide)] at H; exact H
   clear H; have H := H1; clear H1
   have H' := Aside0.mk H
   clear H
   go_wp2_with (first | (go_at_call 59; (with_reducible refine (salvorref16_MayRegions.calls k _ _ l0 false _ ?side1 ?side2 A6.out).mono ?_); (case side1 => exact cb_ HR0 HB); (case side2 => exact HC0.out); rintro e w14 ⟨rfl, hb⟩; replace HB := bs_ HB hb; (try clear hb)))
   repeat (go_quiet (first | (go_at_call 59; (with_reducible refine (salvorref16_MayRegions.calls k _ _ l0 false _ ?side1 ?side2 A6.out).mono ?_); (case side1 => exact cb_ HR0 HB); (case side2 => exact HC0.out); rintro e w14 ⟨rfl, hb⟩; replace HB := bs_ HB hb; (try clear hb))); try go_wp2_with (first | (go_at_call 59; (with_reducible refine (salvorref16_MayRegions.calls k _ _ l0 false _ ?side1 ?side2 A6.out).mono ?_); (case side1 => exact cb_ HR0 HB); (case side2 => exact HC0.out); rintro e w14 ⟨rfl, hb⟩; replace HB := bs_ HB hb; (try clear hb))))
   go_meet
   case rel => exact ⟨_, (true), (by first | rfl | (simp; done) | (simp [*]; done)), H', ⟨by first | omega | exact Nat.le_refl _⟩, ⟨bh_ HB⟩⟩
 case rest =>
  clear HC5; (try clear c1); (try clear p2); (try clear c4); (try clear c7); (try clear c8); (try clear c8b0); (try clear c10); (try clear c10b0); obtain ⟨kq, x31_4, rfl, HA, HJ4, HB⟩ := hcut
  cases kq with
  | zero => exact absurd HA.out (by simp [salvorref16_Set.j0])
  | succ kj4 =>
   have H := HA.out; clear HA; simp only [salvorref16_Set.j0] at H
   by_cases c15 : x31_4 = true
   ·subst c15
    have H1 : (if ([] : List (S33)).length + l0.length < 5864062014805 then (some (([] : List (S33)) ++ l0)) else (none)) = some r := by rw [if_pos rfl] at H; exact H
    clear H; have H := H1; clear H1
    by_cases c16 : ([] : List (S33)).length + l0.length < 5864062014805
    ·rw [if_pos c16] at H
     have LMc16 := Aside0.mk c16; clear c16
     obtain ⟨y422, hy422⟩ : ∃ y_ : List (S33), y_ = (([] : List (S33)) ++ l0) := ⟨_, rfl⟩
     replace H : (some y422) = some r := by first | (rw [hy422]; with_reducible exact H) | (have H2_ := (Option.bind_some _ _).symm.trans H; rw [hy422]; with_reducible exact H2_) | (have H2_ := (Option.bind_some _ _).symm.trans H; with_reducible exact H2_) | with_reducible exact H | (rw [hy422]; exact H) | exact H
     have Ny422 := Aside0.mk hy422; clear hy422
     obtain rfl := Option.some.inj H
     go_wp2_with (first | ((with_reducible refine gate_builtin (b := .append) (xs := #[.const (.slice none 0 0), .tmp 32]) rfl ?_); at_builtin; refine Kd.R_append_rows k33 (w0 := w) w.heap.size rfl (.const (.slice none 0 0)) (.tmp 32) 24 33 (.agg #[(.int .i64 0), (.int .i64 0), (.int .u8 0)]) 24 rfl Try.underlying24 info33 rfl (by decide) (by omega) (.slice none 0 0) ([] : List (S33)) l0 _ _ _ (fun _ => True) (fun _ => False) rfl rfl ?aO ?aR (fun _ _ h => h) (fun _ h => h.elim) ?aF ?aB ?aS ?aL ?_; (case aR => repeat (first | exact (Kd.C_below HR0.out HB.out) | (with_reducible refine Kd.C_alloc ?_ _) | (with_reducible refine Kd.C_drewN ?_ _) | (with_reducible refine Kd.C_drew ?_))); (case aB => exact (bh_ HB)); (case aF => exact (fun _ _ => trivial)); (case aO => exact ((Kd.R_nil _ _ _ _ (fun _ => True)))); (case aS => exact (below_size (bh_ HB))); (case aL => have := LMc16.out; omega); intro v423 w17 ho hb hg hat; rw [← Ny422.out] at ho; have HO424 := Aside0.mk (ho); replace HB := Aside0.mk (hb); clear ho hb hg hat))
     repeat (go_quiet (first | ((with_reducible refine gate_builtin (b := .append) (xs := #[.const (.slice none 0 0), .tmp 32]) rfl ?_); at_builtin; refine Kd.R_append_rows k33 (w0 := w) w.heap.size rfl (.const (.slice none 0 0)) (.tmp 32) 24 33 (.agg #[(.int .i64 0), (.int .i64 0), (.int .u8 0)]) 24 rfl Try.underlying24 info33 rfl (by decide) (by omega) (.slice none 0 0) ([] : List (S33)) l0 _ _ _ (fun _ => True) (fun _ => False) rfl rfl ?aO ?aR (fun _ _ h => h) (fun _ h => h.elim) ?aF ?aB ?aS ?aL ?_; (case aR => repeat (first | exact (Kd.C_below HR0.out HB.out) | (with_reducible refine Kd.C_alloc ?_ _) | (with_reducible refine Kd.C_drewN ?_ _) | (with_reducible refine Kd.C_drew ?_))); (case aB => exact (bh_ HB)); (case aF => exact (fun _ _ => trivial)); (case aO => exact ((Kd.R_nil _ _ _ _ (fun _ => True)))); (case aS => exact (below_size (bh_ HB))); (case aL => have := LMc16.out; omega); intro v423 w17 ho hb hg hat; rw [← Ny422.out] at ho; have HO424 := Aside0.mk (ho); replace HB := Aside0.mk (hb); clear ho hb hg hat)); try go_wp2_with (first | ((with_reducible refine gate_builtin (b := .append) (xs := #[.const (.slice none 0 0), .tmp 32]) rfl ?_); at_builtin; refine Kd.R_append_rows k33 (w0 := w) w.heap.size rfl (.const (.slice none 0 0)) (.tmp 32) 24 33 (.agg #[(.int .i64 0), (.int .i64 0), (.int .u8 0)]) 24 rfl Try.underlying24 info33 rfl (by decide) (by omega) (.slice none 0 0) ([] : List (S33)) l0 _ _ _ (fun _ => True) (fun _ => False) rfl rfl ?aO ?aR (fun _ _ h => h) (fun _ h => h.elim) ?aF ?aB ?aS ?aL ?_; (case aR => repeat (first | exact (Kd.C_below HR0.out HB.out) | (with_reducible refine Kd.C_alloc ?_ _) | (with_reducible refine Kd.C_drewN ?_ _) | (with_reducible refine Kd.C_drew ?_))); (case aB => exact (bh_ HB)); (case aF => exact (fun _ _ => trivial)); (case aO => exact ((Kd.R_nil _ _ _ _ (fun _ => True)))); (case aS => exact (below_size (bh_ HB))); (case aL => have := LMc16.out; omega); intro v423 w17 ho hb hg hat; rw [← Ny422.out] at ho; have HO424 := Aside0.mk (ho); replace HB := Aside0.mk (hb); clear ho hb hg hat)))
     go_ret
     exact ⟨_, by first | rfl | (simp [errW_none, errW_some] <;> rfl) | (simp [*, errW_none, errW_some] <;> rfl), by (with_reducible repeat (first | apply Kd.R_alloc | apply Kd.R_drewN | apply Kd.R_drew)); exact HO424.out, bh_ HB⟩
    ·rw [if_neg c16] at H
     exact absurd H (by simp)
   ·replace c15 := Bool.eq_false_iff.mpr c15
    subst c15
    have H1 : ((salvorref16_End.f kj4 l0).bind fun t425 => (salvorref16_Set.l0 kj4 l0 a3 (mn a1 t425) (wrap64 ((mn a1 t425) + (mn a2 (wrap64 (t425 - (mn a1 t425)))))) ([] : List (S33)) 0)) = some r := by rw [if_neg (show ¬ (false = true) by decide)] at H; exact H
    clear H; have H := H1; clear H1; replace H := Option.bind_eq_some_iff.mp H; obtain ⟨t425, A180, H⟩ := H
    replace H : (salvorref16_Set.l0 kj4 l0 a3 (mn a1 t425) (wrap64 ((mn a1 t425) + (mn a2 (wrap64 (t425 - (mn a1 t425)))))) ([] : List (S33)) 0) = some r := H
    have A18 := Aside0.mk A180; clear A180
    obtain ⟨ji19, hji19⟩ : ∃ j_ : Int, (mn a1 t425) = j_ := ⟨_, rfl⟩
    replace H : (salvorref16_Set.l0 kj4 l0 a3 ji19 (wrap64 ((ji19) + (mn a2 (wrap64 (t425 - (ji19)))))) ([] : List (S33)) 0) = some r := by first | (rw [hji19] at H; exact H) | (simp only [hji19] at H ⊢; exact H)
    (try rw [hji19] at A18)
    have hji19_ : (if t425 < a1 then t425 else a1) = ji19 := hji19
    obtain ⟨ji20, hji20⟩ : ∃ j_ : Int, (mn a2 (wrap64 (t425 - (ji19)))) = j_ := ⟨_, rfl⟩
    replace H : (salvorref16_Set.l0 kj4 l0 a3 ji19 (wrap64 ((ji19) + (ji20))) ([] : List (S33)) 0) = some r := by first | (rw [hji20] at H; exact H) | (simp only [hji20] at H ⊢; exact H)
    (try rw [hji20] at A18)
    have hji20_ : (if (wrap64 (t425 - (ji19))) < a2 then (wrap64 (t425 - (ji19))) else a2) = ji20 := hji20
    have hji20k_ : (if (IntKind.i64.wrap (t425 - (ji19))) < a2 then (IntKind.i64.wrap (t425 - (ji19))) else a2) = ji20 := by simp only [i64_w]; exact hji20_
    have H' := Aside0.mk H
    clear H
    go_wp2_with (first | (go_at_call 60; (with_reducible refine (salvorref16_End.calls kj4 _ _ l0 t425 _ ?side1 ?side2 A18.out).mono ?_); (case side1 => exact cb_ HR0 HB); (case side2 => exact HC0.out); rintro e w21 ⟨rfl, hb⟩; replace HB := bs_ HB hb; (try clear hb)))
    repeat (go_quiet (first | (go_at_call 60; (with_reducible refine (salvorref16_End.calls kj4 _ _ l0 t425 _ ?side1 ?side2 A18.out).mono ?_); (case side1 => exact cb_ HR0 HB); (case side2 => exact HC0.out); rintro e w21 ⟨rfl, hb⟩; replace HB := bs_ HB hb; (try clear hb))); try go_wp2_with (first | (go_at_call 60; (with_reducible refine (salvorref16_End.calls kj4 _ _ l0 t425 _ ?side1 ?side2 A18.out).mono ?_); (case side1 => exact cb_ HR0 HB); (case side2 => exact HC0.out); rintro e w21 ⟨rfl, hb⟩; replace HB := bs_ HB hb; (try clear hb))))
    go_loopg [12, 13] kj4 (fun kq v12 v13 w' => ∃ (x12_2 : List (S33)) (x13_2 : Int), v13 = .int .i64 x13_2 ∧ Aside0 (salvorref16_Set.l0 kq l0 a3 ji19 (wrap64 ((ji19) + (ji20))) x12_2 x13_2 = some r) ∧ Aside0 (kq ≤ kj4) ∧ Aside0 (Kd.R k33 33 w' w.heap.size (fun _ => True) v12 x12_2) ∧ Aside0 (Below w.heap.size w w'))
    case atStart => exact ⟨(([] : List (S33))), (0), (by first | rfl | (simp; done) | (simp [*]; done)), H', ⟨Nat.le_refl _⟩, ⟨by first | exact Kd.R_nil _ _ _ _ _ | exact Kd.N_nil _ _ _ _ _ | exact Kd.V_nil _ _ _ _ _ | exact Kd.Q_nil _ _ _ _ _ | exact Kd.S_nil _ _ _ _ _⟩, ⟨bh_ HB⟩⟩
    case round =>
     clear H'
     (try clear c1); (try clear p2); (try clear c4); (try clear p6); (try clear c7); (try clear c8); (try clear c8b0); (try clear c10); (try clear c10b0); (try clear c15); (try clear c16); (try clear p2); obtain ⟨x12_2, x13_2, rfl, HA, HK2, HO_12, HB⟩ := hrel
     cases gk with
     | zero => exact absurd HA.out (by simp [salvorref16_Set.l0])
     | succ k2 =>
      have H := HA.out; clear HA; simp only [salvorref16_Set.l0] at H
      by_cases c22 : x13_2 < (l0.length : Int)
      ·rw [if_pos c22] at H
       have c22b0 : decide (x13_2 < (l0.length : Int)) = true := decide_eq_true c22
       clear c22
       by_cases c23 : 0 ≤ x13_2
       ·rw [if_pos c23] at H
        have c23b0 : decide (0 ≤ x13_2) = true := decide_eq_true c23
        clear c23
        obtain ⟨ji24, hji24⟩ : ∃ j_ : Int, (mn (wrap64 (((rd_T33 l0 x13_2).f0) + ((rd_T33 l0 x13_2).f1))) ji19) = j_ := ⟨_, rfl⟩
        replace H : ((salvorref16_put.f x12_2 ((rd_T33 l0 x13_2).f0) (ji24) ((rd_T33 l0 x13_2).f2)).bind fun t430 => ((salvorref16_put.f t430 (mx ((rd_T33 l0 x13_2).f0) ji19) (mn (wrap64 (((rd_T33 l0 x13_2).f0) + ((rd_T33 l0 x13_2).f1))) (wrap64 ((ji19) + (ji20)))) a3).bind fun t433 => ((salvorref16_put.f t433 (mx ((rd_T33 l0 x13_2).f0) (wrap64 ((ji19) + (ji20)))) (wrap64 (((rd_T33 l0 x13_2).f0) + ((rd_T33 l0 x13_2).f1))) ((rd_T33 l0 x13_2).f2)).bind fun t437 => (salvorref16_Set.l0 k2 l0 a3 ji19 (wrap64 ((ji19) + (ji20))) t437 (wrap64 (x13_2 + 1)))))) = some r := by first | (rw [hji24] at H; exact H) | (simp only [hji24] at H ⊢; exact H)
        have hji24_ : (if ji19 < (wrap64 (((rd_T33 l0 x13_2).f0) + ((rd_T33 l0 x13_2).f1))) then ji19 else (wrap64 (((rd_T33 l0 x13_2).f0) + ((rd_T33 l0 x13_2).f1)))) = ji24 := hji24
        have hji24k_ : (if ji19 < (IntKind.i64.wrap (((rd_T33 l0 x13_2).f0) + ((rd_T33 l0 x13_2).f1))) then ji19 else (IntKind.i64.wrap (((rd_T33 l0 x13_2).f0) + ((rd_T33 l0 x13_2).f1)))) = ji24 := by simp only [i64_w]; exact hji24_
        replace H := Option.bind_eq_some_iff.mp H; obtain ⟨t430, A250, H⟩ := H
        replace H : ((salvorref16_put.f t430 (mx ((rd_T33 l0 x13_2).f0) ji19) (mn (wrap64 (((rd_T33 l0 x13_2).f0) + ((rd_T33 l0 x13_2).f1))) (wrap64 ((ji19) + (ji20)))) a3).bind fun t433 => ((salvorref16_put.f t433 (mx ((rd_T33 l0 x13_2).f0) (wrap64 ((ji19) + (ji20)))) (wrap64 (((rd_T33 l0 x13_2).f0) + ((rd_T33 l0 x13_2).f1))) ((rd_T33 l0 x13_2).f2)).bind fun t437 => (salvorref16_Set.l0 k2 l0 a3 ji19 (wrap64 ((ji19) + (ji20))) t437 (wrap64 (x13_2 + 1))))) = some r := H
        have A25 := Aside0.mk A250; clear A250
        obtain ⟨ji26, hji26⟩ : ∃ j_ : Int, (mx ((rd_T33 l0 x13_2).f0) ji19) = j_ := ⟨_, rfl⟩
        replace H : ((salvorref16_put.f t430 (ji26) (mn (wrap64 (((rd_T33 l0 x13_2).f0) + ((rd_T33 l0 x13_2).f1))) (wrap64 ((ji19) + (ji20)))) a3).bind fun t433 => ((salvorref16_put.f t433 (mx ((rd_T33 l0 x13_2).f0) (wrap64 ((ji19) + (ji20)))) (wrap64 (((rd_T33 l0 x13_2).f0) + ((rd_T33 l0 x13_2).f1))) ((rd_T33 l0 x13_2).f2)).bind fun t437 => (salvorref16_Set.l0 k2 l0 a3 ji19 (wrap64 ((ji19) + (ji20))) t437 (wrap64 (x13_2 + 1))))) = some r := by first | (rw [hji26] at H; exact H) | (simp only [hji26] at H ⊢; exact H)
        (try rw [hji26] at A25)
        have hji26_ : (if ((rd_T33 l0 x13_2).f0) < ji19 then ji19 else ((rd_T33 l0 x13_2).f0)) = ji26 := hji26
        obtain ⟨ji27, hji27⟩ : ∃ j_ : Int, (mn (wrap64 (((rd_T33 l0 x13_2).f0) + ((rd_T33 l0 x13_2).f1))) (wrap64 ((ji19) + (ji20)))) = j_ := ⟨_, rfl⟩
        replace H : ((salvorref16_put.f t430 (ji26) (ji27) a3).bind fun t433 => ((salvorref16_put.f t433 (mx ((rd_T33 l0 x13_2).f0) (wrap64 ((ji19) + (ji20)))) (wrap64 (((rd_T33 l0 x13_2).f0) + ((rd_T33 l0 x13_2).f1))) ((rd_T33 l0 x13_2).f2)).bind fun t437 => (salvorref16_Set.l0 k2 l0 a3 ji19 (wrap64 ((ji19) + (ji20))) t437 (wrap64 (x13_2 + 1))))) = some r := by first | (rw [hji27] at H; exact H) | (simp only [hji27] at H ⊢; exact H)
        (try rw [hji27] at A25)
        have hji27_ : (if (wrap64 ((ji19) + (ji20))) < (wrap64 (((rd_T33 l0 x13_2).f0) + ((rd_T33 l0 x13_2).f1))) then (wrap64 ((ji19) + (ji20))) else (wrap64 (((rd_T33 l0 x13_2).f0) + ((rd_T33 l0 x13_2).f1)))) = ji27 := hji27
        have hji27k_ : (if (IntKind.i64.wrap ((ji19) + (ji20))) < (IntKind.i64.wrap (((rd_T33 l0 x13_2).f0) + ((rd_T33 l0 x13_2).f1))) then (IntKind.i64.wrap ((ji19) + (ji20))) else (IntKind.i64.wrap (((rd_T33 l0 x13_2).f0) + ((rd_T33 l0 x13_2).f1)))) = ji27 := by simp only [i64_w]; exact hji27_
        replace H := Option.bind_eq_some_iff.mp H; obtain ⟨t433, A280, H⟩ := H
        replace H : ((salvorref16_put.f t433 (mx ((rd_T33 l0 x13_2).f0) (wrap64 ((ji19) + (ji20)))) (wrap64 (((rd_T33 l0 x13_2).f0) + ((rd_T33 l0 x13_2).f1))) ((rd_T33 l0 x13_2).f2)).bind fun t437 => (salvorref16_Set.l0 k2 l0 a3 ji19 (wrap64 ((ji19) + (ji20))) t437 (wrap64 (x13_2 + 1)))) = some r := H
        have A28 := Aside0.mk A280; clear A280
        obtain ⟨ji29, hji29⟩ : ∃ j_ : Int, (mx ((rd_T33 l0 x13_2).f0) (wrap64 ((ji19) + (ji20)))) = j_ := ⟨_, rfl⟩
        replace H : ((salvorref16_put.f t433 (ji29) (wrap64 (((rd_T33 l0 x13_2).f0) + ((rd_T33 l0 x13_2).f1))) ((rd_T33 l0 x13_2).f2)).bind fun t437 => (salvorref16_Set.l0 k2 l0 a3 ji19 (wrap64 ((ji19) + (ji20))) t437 (wrap64 (x13_2 + 1)))) = some r := by first | (rw [hji29] at H; exact H) | (simp only [hji29] at H ⊢; exact H)
        (try rw [hji29] at A25)
        (try rw [hji29] at A28)
        have hji29_ : (if ((rd_T33 l0 x13_2).f0) < (wrap64 ((ji19) + (ji20))) then (wrap64 ((ji19) + (ji20))) else ((rd_T33 l0 x13_2).f0)) = ji29 := hji29
        have hji29k_ : (if ((rd_T33 l0 x13_2).f0) < (IntKind.i64.wrap ((ji19) + (ji20))) then (IntKind.i64.wrap ((ji19) + (ji20))) else ((rd_T33 l0 x13_2).f0)) = ji29 := by simp only [i64_w]; exact hji29_
        replace H := Option.bind_eq_some_iff.mp H; obtain ⟨t437, A300, H⟩ := H
        replace H : (salvorref16_Set.l0 k2 l0 a3 ji19 (wrap64 ((ji19) + (ji20))) t437 (wrap64 (x13_2 + 1))) = some r := H
        have A30 := Aside0.mk A300; clear A300
        have H' := Aside0.mk H
        clear H
        have p426 : 0 ≤ (x13_2 : Int) := of_decide_eq_true (by first | (with_reducible assumption) | assumption)
        have q426 : x13_2 < (l0.length : Int) := of_decide_eq_true (by first | (with_reducible assumption) | assumption)
        obtain ⟨ad426, e426, hx426_0, hx426_1, hx426_2⟩ := at_T33 HR0.out x13_2 p426 q426; cases e426
        replace hx426_0 := (HB.out.cell (World.block_lt_of_cell? w _ hx426_0)).trans hx426_0
        replace hx426_1 := (HB.out.cell (World.block_lt_of_cell? w _ hx426_1)).trans hx426_1
        replace hx426_2 := (HB.out.cell (World.block_lt_of_cell? w _ hx426_2)).trans hx426_2
        replace p426 := eq_true p426; replace q426 := eq_true q426
        have p427 : 0 ≤ (x13_2 : Int) := of_decide_eq_true (by first | (with_reducible assumption) | assumption)
        have q427 : x13_2 < (l0.length : Int) := of_decide_eq_true (by first | (with_reducible assumption) | assumption)
        obtain ⟨ad427, e427, hx427_0, hx427_1, hx427_2⟩ := at_T33 HR0.out x13_2 p427 q427
        obtain rfl : ad426 = ad427 := (by injection e427)
        replace hx427_0 := (HB.out.cell (World.block_lt_of_cell? w _ hx427_0)).trans hx427_0
        replace hx427_1 := (HB.out.cell (World.block_lt_of_cell? w _ hx427_1)).trans hx427_1
        replace hx427_2 := (HB.out.cell (World.block_lt_of_cell? w _ hx427_2)).trans hx427_2
        replace p427 := eq_true p427; replace q427 := eq_true q427
        have p428 : 0 ≤ (x13_2 : Int) := of_decide_eq_true (by first | (with_reducible assumption) | assumption)
        have q428 : x13_2 < (l0.length : Int) := of_decide_eq_true (by first | (with_reducible assumption) | assumption)
        obtain ⟨ad428, e428, hx428_0, hx428_1, hx428_2⟩ := at_T33 HR0.out x13_2 p428 q428
        obtain rfl : ad426 = ad428 := (by injection e428)
        replace hx428_0 := (HB.out.cell (World.block_lt_of_cell? w _ hx428_0)).trans hx428_0
        replace hx428_1 := (HB.out.cell (World.block_lt_of_cell? w _ hx428_1)).trans hx428_1
        replace hx428_2 := (HB.out.cell (World.block_lt_of_cell? w _ hx428_2)).trans hx428_2
        replace p428 := eq_true p428; replace q428 := eq_true q428
        have p429 : 0 ≤ (x13_2 : Int) := of_decide_eq_true (by first | (with_reducible assumption) | assumption)
        have q429 : x13_2 < (l0.length : Int) := of_decide_eq_true (by first | (with_reducible assumption) | assumption)
        obtain ⟨ad429, e429, hx429_0, hx429_1, hx429_2⟩ := at_T33 HR0.out x13_2 p429 q429
        obtain rfl : ad426 = ad429 := (by injection e429)
        replace hx429_0 := (HB.out.cell (World.block_lt_of_cell? w _ hx429_0)).trans hx429_0
        replace hx429_1 := (HB.out.cell (World.block_lt_of_cell? w _ hx429_1)).trans hx429_1
        replace hx429_2 := (HB.out.cell (World.block_lt_of_cell? w _ hx429_2)).trans hx429_2
        replace p429 := eq_true p429; replace q429 := eq_true q429; obtain ⟨Ao31, co31, eo31⟩ := Kd.R_slice HO_12.out; subst eo31
        go_wp2_with (first | (go_at_call 64; (with_reducible refine (salvorref16_put.calls (fun k_ => some k_ = (.slice Ao31 x12_2.length co31 : Value).ownBlock) (.slice Ao31 x12_2.length co31) x12_2 ((rd_T33 l0 x13_2).f0) ji24 ((rd_T33 l0 x13_2).f2) t430 w _ ?side1 ?side2 A25.out).mono ?_); (case side1 => repeat (first | (with_reducible first | exact HB.out | apply below_alloc | apply pw_below_drewN | apply below_drew1) | exact HB.out)); (case side2 => exact Kd.R_tight rfl HO_12.out); rintro e w32 ⟨v431, rfl, ho0, hb, hkp⟩; have HO432 := Aside0.mk (Kd.R_mono (ok' := fun k_ => True) ho0 (fun k_ hk_ => trivial)); replace HB := Aside0.mk (hb); clear HO_12; (try clear hb); (try clear hkp); (try clear ho0); obtain ⟨Ao33, co33, eo33⟩ := Kd.R_slice HO432.out; subst eo33) | (go_at_call 64; (with_reducible refine (salvorref16_put.calls (fun k_ => some k_ = (.slice Ao33 t430.length co33 : Value).ownBlock) (.slice Ao33 t430.length co33) t430 ji26 ji27 a3 t433 w _ ?side1 ?side2 A28.out).mono ?_); (case side1 => repeat (first | (with_reducible first | exact HB.out | apply below_alloc | apply pw_below_drewN | apply below_drew1) | exact HB.out)); (case side2 => exact Kd.R_tight rfl HO432.out); rintro e w34 ⟨v434, rfl, ho0, hb, hkp⟩; have HO435 := Aside0.mk (Kd.R_mono (ok' := fun k_ => True) ho0 (fun k_ hk_ => trivial)); replace HB := Aside0.mk (hb); clear HO432; (try clear hb); (try clear hkp); (try clear ho0); have p436 : 0 ≤ (x13_2 : Int) := of_decide_eq_true (by first | (with_reducible assumption) | assumption); have q436 : x13_2 < (l0.length : Int) := of_decide_eq_true (by first | (with_reducible assumption) | assumption); obtain ⟨ad436, e436, hx436_0, hx436_1, hx436_2⟩ := at_T33 HR0.out x13_2 p436 q436; obtain rfl : ad426 = ad436 := (by injection e436); replace hx436_0 := (HB.out.cell (World.block_lt_of_cell? w _ hx436_0)).trans hx436_0; replace hx436_1 := (HB.out.cell (World.block_lt_of_cell? w _ hx436_1)).trans hx436_1; replace hx436_2 := (HB.out.cell (World.block_lt_of_cell? w _ hx436_2)).trans hx436_2; replace p436 := eq_true p436; replace q436 := eq_true q436; obtain ⟨Ao35, co35, eo35⟩ := Kd.R_slice HO435.out; subst eo35) | (go_at_call 64; (with_reducible refine (salvorref16_put.calls (fun k_ => some k_ = (.slice Ao35 t433.length co35 : Value).ownBlock) (.slice Ao35 t433.length co35) t433 ji29 (wrap64 (((rd_T33 l0 x13_2).f0) + ((rd_T33 l0 x13_2).f1))) ((rd_T33 l0 x13_2).f2) t437 w _ ?side1 ?side2 A30.out).mono ?_); (case side1 => repeat (first | (with_reducible first | exact HB.out | apply below_alloc | apply pw_below_drewN | apply below_drew1) | exact HB.out)); (case side2 => exact Kd.R_tight rfl HO435.out); rintro e w36 ⟨v438, rfl, ho0, hb, hkp⟩; have HO439 := Aside0.mk (Kd.R_mono (ok' := fun k_ => True) ho0 (fun k_ hk_ => trivial)); replace HB := Aside0.mk (hb); clear HO435; (try clear hb); (try clear hkp); (try clear ho0)))
        repeat (go_quiet (first | (go_at_call 64; (with_reducible refine (salvorref16_put.calls (fun k_ => some k_ = (.slice Ao31 x12_2.length co31 : Value).ownBlock) (.slice Ao31 x12_2.length co31) x12_2 ((rd_T33 l0 x13_2).f0) ji24 ((rd_T33 l0 x13_2).f2) t430 w _ ?side1 ?side2 A25.out).mono ?_); (case side1 => repeat (first | (with_reducible first | exact HB.out | apply below_alloc | apply pw_below_drewN | apply below_drew1) | exact HB.out)); (case side2 => exact Kd.R_tight rfl HO_12.out); rintro e w32 ⟨v431, rfl, ho0, hb, hkp⟩; have HO432 := Aside0.mk (Kd.R_mono (ok' := fun k_ => True) ho0 (fun k_ hk_ => trivial)); replace HB := Aside0.mk (hb); clear HO_12; (try clear hb); (try clear hkp); (try clear ho0); obtain ⟨Ao33, co33, eo33⟩ := Kd.R_slice HO432.out; subst eo33) | (go_at_call 64; (with_reducible refine (salvorref16_put.calls (fun k_ => some k_ = (.slice Ao33 t430.length co33 : Value).ownBlock) (.slice Ao33 t430.length co33) t430 ji26 ji27 a3 t433 w _ ?side1 ?side2 A28.out).mono ?_); (case side1 => repeat (first | (with_reducible first | exact HB.out | apply below_alloc | apply pw_below_drewN | apply below_drew1) | exact HB.out)); (case side2 => exact Kd.R_tight rfl HO432.out); rintro e w34 ⟨v434, rfl, ho0, hb, hkp⟩; have HO435 := Aside0.mk (Kd.R_mono (ok' := fun k_ => True) ho0 (fun k_ hk_ => trivial)); replace HB := Aside0.mk (hb); clear HO432; (try clear hb); (try clear hkp); (try clear ho0); have p436 : 0 ≤ (x13_2 : Int) := of_decide_eq_true (by first | (with_reducible assumption) | assumption); have q436 : x13_2 < (l0.length : Int) := of_decide_eq_true (by first | (with_reducible assumption) | assumption); obtain ⟨ad436, e436, hx436_0, hx436_1, hx436_2⟩ := at_T33 HR0.out x13_2 p436 q436; obtain rfl : ad426 = ad436 := (by injection e436); replace hx436_0 := (HB.out.cell (World.block_lt_of_cell? w _ hx436_0)).trans hx436_0; replace hx436_1 := (HB.out.cell (World.block_lt_of_cell? w _ hx436_1)).trans hx436_1; replace hx436_2 := (HB.out.cell (World.block_lt_of_cell? w _ hx436_2)).trans hx436_2; replace p436 := eq_true p436; replace q436 := eq_true q436; obtain ⟨Ao35, co35, eo35⟩ := Kd.R_slice HO435.out; subst eo35) | (go_at_call 64; (with_reducible refine (salvorref16_put.calls (fun k_ => some k_ = (.slice Ao35 t433.length co35 : Value).ownBlock) (.slice Ao35 t433.length co35) t433 ji29 (wrap64 (((rd_T33 l0 x13_2).f0) + ((rd_T33 l0 x13_2).f1))) ((rd_T33 l0 x13_2).f2) t437 w _ ?side1 ?side2 A30.out).mono ?_); (case side1 => repeat (first | (with_reducible first | exact HB.out | apply below_alloc | apply pw_below_drewN | apply below_drew1) | exact HB.out)); (case side2 => exact Kd.R_tight rfl HO435.out); rintro e w36 ⟨v438, rfl, ho0, hb, hkp⟩; have HO439 := Aside0.mk (Kd.R_mono (ok' := fun k_ => True) ho0 (fun k_ hk_ => trivial)); replace HB := Aside0.mk (hb); clear HO435; (try clear hb); (try clear hkp); (try clear ho0))); try go_wp2_with (first | (go_at_call 64; (with_reducible refine (salvorref16_put.calls (fun k_ => some k_ = (.slice Ao31 x12_2.length co31 : Value).ownBlock) (.slice Ao31 x12_2.length co31) x12_2 ((rd_T33 l0 x13_2).f0) ji24 ((rd_T33 l0 x13_2).f2) t430 w _ ?side1 ?side2 A25.out).mono ?_); (case side1 => repeat (first | (with_reducible first | exact HB.out | apply below_alloc | apply pw_below_drewN | apply below_drew1) | exact HB.out)); (case side2 => exact Kd.R_tight rfl HO_12.out); rintro e w32 ⟨v431, rfl, ho0, hb, hkp⟩; have HO432 := Aside0.mk (Kd.R_mono (ok' := fun k_ => True) ho0 (fun k_ hk_ => trivial)); replace HB := Aside0.mk (hb); clear HO_12; (try clear hb); (try clear hkp); (try clear ho0); obtain ⟨Ao33, co33, eo33⟩ := Kd.R_slice HO432.out; subst eo33) | (go_at_call 64; (with_reducible refine (salvorref16_put.calls (fun k_ => some k_ = (.slice Ao33 t430.length co33 : Value).ownBlock) (.slice Ao33 t430.length co33) t430 ji26 ji27 a3 t433 w _ ?side1 ?side2 A28.out).mono ?_); (case side1 => repeat (first | (with_reducible first | exact HB.out | apply below_alloc | apply pw_below_drewN | apply below_drew1) | exact HB.out)); (case side2 => exact Kd.R_tight rfl HO432.out); rintro e w34 ⟨v434, rfl, ho0, hb, hkp⟩; have HO435 := Aside0.mk (Kd.R_mono (ok' := fun k_ => True) ho0 (fun k_ hk_ => trivial)); replace HB := Aside0.mk (hb); clear HO432; (try clear hb); (try clear hkp); (try clear ho0); have p436 : 0 ≤ (x13_2 : Int) := of_decide_eq_true (by first | (with_reducible assumption) | assumption); have q436 : x13_2 < (l0.length : Int) := of_decide_eq_true (by first | (with_reducible assumption) | assumption); obtain ⟨ad436, e436, hx436_0, hx436_1, hx436_2⟩ := at_T33 HR0.out x13_2 p436 q436; obtain rfl : ad426 = ad436 := (by injection e436); replace hx436_0 := (HB.out.cell (World.block_lt_of_cell? w _ hx436_0)).trans hx436_0; replace hx436_1 := (HB.out.cell (World.block_lt_of_cell? w _ hx436_1)).trans hx436_1; replace hx436_2 := (HB.out.cell (World.block_lt_of_cell? w _ hx436_2)).trans hx436_2; replace p436 := eq_true p436; replace q436 := eq_true q436; obtain ⟨Ao35, co35, eo35⟩ := Kd.R_slice HO435.out; subst eo35) | (go_at_call 64; (with_reducible refine (salvorref16_put.calls (fun k_ => some k_ = (.slice Ao35 t433.length co35 : Value).ownBlock) (.slice Ao35 t433.length co35) t433 ji29 (wrap64 (((rd_T33 l0 x13_2).f0) + ((rd_T33 l0 x13_2).f1))) ((rd_T33 l0 x13_2).f2) t437 w _ ?side1 ?side2 A30.out).mono ?_); (case side1 => repeat (first | (with_reducible first | exact HB.out | apply below_alloc | apply pw_below_drewN | apply below_drew1) | exact HB.out)); (case side2 => exact Kd.R_tight rfl HO435.out); rintro e w36 ⟨v438, rfl, ho0, hb, hkp⟩; have HO439 := Aside0.mk (Kd.R_mono (ok' := fun k_ => True) ho0 (fun k_ hk_ => trivial)); replace HB := Aside0.mk (hb); clear HO435; (try clear hb); (try clear hkp); (try clear ho0))))
        go_roundg k2
        case measure => have := HJ4.out; have := HK2.out; omega
        case rel => exact ⟨(t437), (wrap64 (x13_2 + 1)), (by first | rfl | (simp; done) | (simp [*]; done)), H', ⟨by have := HJ4.out; have := HK2.out; omega⟩, ⟨by (with_reducible repeat (first | apply Kd.R_alloc | apply Kd.R_drewN | apply Kd.R_drew)); exact HO439.out⟩, ⟨bh_ HB⟩⟩
       ·rw [if_neg c23] at H
        exact absurd H (by simp)
      ·rw [if_neg c22] at H
       have c22b0 : decide (x13_2 < (l0.length : Int)) = false := decide_eq_false c22
       clear c22
       obtain rfl := Option.some.inj H
       go_wp2
       repeat (go_quiet (fail); try go_wp2)
       go_ret
       exact ⟨_, by first | rfl | (simp [errW_none, errW_some] <;> rfl) | (simp only [← hji19, ← hji20]; first | rfl | (simp [errW_none, errW_some] <;> rfl)) | (simp [*, errW_none, errW_some] <;> rfl), by (with_reducible repeat (first | apply Kd.R_alloc | apply Kd.R_drewN | apply Kd.R_drew)); exact HO_12.out, bh_ HB⟩

end Go.Proofs.Ytnoilinjlelpaaa.P
