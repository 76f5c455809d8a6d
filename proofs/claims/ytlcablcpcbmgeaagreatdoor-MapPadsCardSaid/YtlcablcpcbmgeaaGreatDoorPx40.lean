/- Laid by a program of this session's own (wip/wprint.py, over the kit's print.py): functions of the given program as plain Lean functions, and that the program's calls come to their answers. -/
import Derived.Test.YtlcablcpcbmgeaaGreatDoorPx0
import Derived.Test.YtlcablcpcbmgeaaGreatDoorPx2
import Derived.Test.YtlcablcpcbmgeaaGreatDoorPx3
import Derived.Test.YtlcablcpcbmgeaaGreatDoorPx4
import Derived.Test.YtlcablcpcbmgeaaGreatDoorPx19
import Derived.Test.YtlcablcpcbmgeaaGreatDoorPx39
namespace Go.Proofs.YtlcablcpcbmgeaaGreatDoor.P
open Go.RowKit Go.Proofs.YtlcablcpcbmgeaaGreatDoorW.PrintWords Go.Proofs.YtlcablcpcbmgeaaGreatDoorW.PrintLast Go.Proofs.YtlcablcpcbmgeaaGreatDoorW.PrintMore
attribute [local go_sem] max2_int min2_int max_two min_two max_three min_three max_four min_four   -- for this text's walks alone
set_option linter.unusedVariables false
set_option linter.unusedSimpArgs false

/-! ### region_Set: function 49 -/
mutual
def region_Set.j0 : Nat → List (S23) → Int → Int → Int → Bool → Option ((List (S23)))
 | 0, _, _, _, _, _ => none
 | k + 1, x0, x1, x2, x3, x31 => if x31 = true then ((api_Region.f x0).bind fun t359 => (some t359)) else ((region_end.f x0).bind fun t362 => ((region_end.f x0).bind fun t363 => (region_Set.l0 k x3 (mn x1 t362) (wrap64 ((mn x1 t362) + (mn x2 (wrap64 (t363 - (mn x1 t362)))))) ([] : List (S23)) x0 (x0.length : Int) 0)))
def region_Set.l0 : Nat → Int → Int → Int → List (S23) → List (S23) → Int → Int → Option ((List (S23)))
 | 0, _, _, _, _, _, _, _ => none
 | k + 1, x3, x9, x10, x11, x46, x47, x48 => if x48 < x47 then (if 0 ≤ x48 then (if x48 < (x46.length : Int) then ((region_Push.f x11 (wrap64 ((mn (mx x9 ((rd_T23 x46 x48).f0)) (wrap64 (((rd_T23 x46 x48).f0) + ((rd_T23 x46 x48).f1)))) - ((rd_T23 x46 x48).f0))) ((rd_T23 x46 x48).f2)).bind fun t366 => ((region_Push.f t366 (wrap64 ((mn (mx x10 ((rd_T23 x46 x48).f0)) (wrap64 (((rd_T23 x46 x48).f0) + ((rd_T23 x46 x48).f1)))) - (mn (mx x9 ((rd_T23 x46 x48).f0)) (wrap64 (((rd_T23 x46 x48).f0) + ((rd_T23 x46 x48).f1)))))) x3).bind fun t369 => ((region_Push.f t369 (wrap64 ((wrap64 (((rd_T23 x46 x48).f0) + ((rd_T23 x46 x48).f1))) - (mn (mx x10 ((rd_T23 x46 x48).f0)) (wrap64 (((rd_T23 x46 x48).f0) + ((rd_T23 x46 x48).f1)))))) ((rd_T23 x46 x48).f2)).bind fun t372 => (region_Set.l0 k x3 x9 x10 t372 x46 x47 (wrap64 (x48 + 1)))))) else (none)) else (none)) else (some x11)
end
def region_Set.f (k : Nat) (l0 : List (S23)) (a1 : Int) (a2 : Int) (a3 : Int) : Option ((List (S23))) := (region_May.f k l0).bind fun t357 => (if t357 = true then (if a1 < 0 then (region_Set.j0 k l0 a1 a2 a3 true) else (if a2 < 0 then (region_Set.j0 k l0 a1 a2 a3 true) else ((region_Is.f a3).bind fun t358 => (region_Set.j0 k l0 a1 a2 a3 (!t358))))) else (region_Set.j0 k l0 a1 a2 a3 true))
theorem region_Set.mono_l : ∀ k, (∀ y0 y1 y2 y3 y4, LeO (region_Set.j0 k y0 y1 y2 y3 y4) (region_Set.j0 (k + 1) y0 y1 y2 y3 y4)) ∧ (∀ y0 y1 y2 y3 y4 y5 y6, LeO (region_Set.l0 k y0 y1 y2 y3 y4 y5 y6) (region_Set.l0 (k + 1) y0 y1 y2 y3 y4 y5 y6))
 | 0 => ⟨fun _ _ _ _ _ r h => by simp [region_Set.j0] at h, fun _ _ _ _ _ _ _ r h => by simp [region_Set.l0] at h⟩
 | k + 1 => by
  obtain ⟨ih0, ih1⟩ := region_Set.mono_l k
  refine ⟨?_, ?_⟩
  ·intro y0 y1 y2 y3 y4
   unfold region_Set.j0
   repeat' first
   | (with_reducible exact ih0 _ _ _ _ _)
   | (with_reducible exact ih1 _ _ _ _ _ _ _)
   | (with_reducible exact region_May.mono _ _)
   | (with_reducible exact LeO.refl _)
   | (with_reducible exact LeO.none _)
   | (with_reducible refine LeO.ite ?_ ?_)
   | (with_reducible refine LeO.bind ?_ (fun _ => ?_))
   | exact ih0 _ _ _ _ _
   | exact ih1 _ _ _ _ _ _ _
   | exact region_May.mono _ _
   | exact LeO.none _
   | refine LeO.ite ?_ ?_
   | refine LeO.bind ?_ (fun _ => ?_)
  ·intro y0 y1 y2 y3 y4 y5 y6
   unfold region_Set.l0
   repeat' first
   | (with_reducible exact ih0 _ _ _ _ _)
   | (with_reducible exact ih1 _ _ _ _ _ _ _)
   | (with_reducible exact region_May.mono _ _)
   | (with_reducible exact LeO.refl _)
   | (with_reducible exact LeO.none _)
   | (with_reducible refine LeO.ite ?_ ?_)
   | (with_reducible refine LeO.bind ?_ (fun _ => ?_))
   | exact ih0 _ _ _ _ _
   | exact ih1 _ _ _ _ _ _ _
   | exact region_May.mono _ _
   | exact LeO.none _
   | refine LeO.ite ?_ ?_
   | refine LeO.bind ?_ (fun _ => ?_)
theorem region_Set.mono : ∀ a0 a1 a2 a3 k, LeO (region_Set.f k a0 a1 a2 a3) (region_Set.f (k + 1) a0 a1 a2 a3) := by
 intro a0 a1 a2 a3 k
 obtain ⟨ih0, ih1⟩ := region_Set.mono_l k
 unfold region_Set.f
 repeat' first
   | (with_reducible exact ih0 _ _ _ _ _)
   | (with_reducible exact ih1 _ _ _ _ _ _ _)
   | (with_reducible exact region_May.mono _ _)
   | (with_reducible exact LeO.refl _)
   | (with_reducible exact LeO.none _)
   | (with_reducible refine LeO.ite ?_ ?_)
   | (with_reducible refine LeO.bind ?_ (fun _ => ?_))
   | exact ih0 _ _ _ _ _
   | exact ih1 _ _ _ _ _ _ _
   | exact region_May.mono _ _
   | exact LeO.none _
   | refine LeO.ite ?_ ?_
   | refine LeO.bind ?_ (fun _ => ?_)
set_option maxHeartbeats 8000000 in
set_option maxRecDepth 100000 in
theorem region_Set.calls (k : Nat) (A0 : Option Addr) (c0 : Nat) (l0 : List (S23)) (a1 : Int) (a2 : Int) (a3 : Int) (r : List (S23)) (w : World) (hr0 : Kd.C k23 w A0 l0.length l0) (hc0 : l0.length ≤ c0) (h : region_Set.f k l0 a1 a2 a3 = some r) :
  Calls Tryz.prog 49 #[.slice A0 l0.length c0, .int .i64 a1, .int .i64 a2, .int .u8 a3] w fun e w' => ∃ v0_ : Value, e = .returned (v0_) ∧ Kd.R k23 23 w' w.heap.size (fun _ => True) v0_ r ∧ Below w.heap.size w w' := by
 have hu23 := Tryz.underlying23
 have HR0 := Aside0.mk hr0
 have HC0 := Aside0.mk hc0
 clear hr0 hc0
 have HB := Aside0.mk (Below.refl w.heap.size w)
 have H : ((region_May.f k l0).bind fun t357 => (if t357 = true then (if a1 < 0 then (region_Set.j0 k l0 a1 a2 a3 true) else (if a2 < 0 then (region_Set.j0 k l0 a1 a2 a3 true) else ((region_Is.f a3).bind fun t358 => (region_Set.j0 k l0 a1 a2 a3 (!t358))))) else (region_Set.j0 k l0 a1 a2 a3 true))) = some r := h
 clear h
 have HC5 := Aside0.mk H
 clear H
 go_enter Tryz.func49, Tryz.ntmps49
 go_upto_region 1 with (fail)
 repeat (go_quiet (fail); go_upto_region 1 with (fail))
 go_cut [31] (fun v31 wc => ∃ (kq : Nat) (x31_4 : Bool), v31 = .bool x31_4 ∧ Aside0 (region_Set.j0 kq l0 a1 a2 a3 x31_4 = some r) ∧ Aside0 (kq ≤ k) ∧ Aside0 (Below w.heap.size w wc))
 case first =>
  have H := HC5.out
  clear HC5
  replace H := Option.bind_eq_some_iff.mp H
  obtain ⟨t357, A60, H⟩ := H
  replace H : (if t357 = true then (if a1 < 0 then (region_Set.j0 k l0 a1 a2 a3 true) else (if a2 < 0 then (region_Set.j0 k l0 a1 a2 a3 true) else ((region_Is.f a3).bind fun t358 => (region_Set.j0 k l0 a1 a2 a3 (!t358))))) else (region_Set.j0 k l0 a1 a2 a3 true)) = some r := H
  have A6 := Aside0.mk A60
  clear A60
  by_cases c7 : t357 = true
  ·subst c7
   have H1 : (if a1 < 0 then (region_Set.j0 k l0 a1 a2 a3 true) else (if a2 < 0 then (region_Set.j0 k l0 a1 a2 a3 true) else ((region_Is.f a3).bind fun t358 => (region_Set.j0 k l0 a1 a2 a3 (!t358))))) = some r := by rw [if_pos rfl] at H; exact H
   clear H
   have H := H1
   clear H1
   by_cases c8 : a1 < 0
   ·rw [if_pos c8] at H
    have c8b0 : decide (a1 < 0) = true := decide_eq_true c8
    clear c8
    (first | rw [c8b0] | (simp only [i64_w, i32_w]; rw [c8b0]) | skip)
    have H' := Aside0.mk H
    clear H
    go_wp2_with (first | (go_at_call 35; (with_reducible refine (region_May.calls k _ _ l0 true _ ?side1 ?side2 A6.out).mono ?_); (case side1 => exact cb_ HR0 HB); (case side2 => exact HC0.out); rintro e w9 ⟨rfl, hb⟩; replace HB := bs_ HB hb; (try clear hb)))
    repeat (go_quiet (first | (go_at_call 35; (with_reducible refine (region_May.calls k _ _ l0 true _ ?side1 ?side2 A6.out).mono ?_); (case side1 => exact cb_ HR0 HB); (case side2 => exact HC0.out); rintro e w9 ⟨rfl, hb⟩; replace HB := bs_ HB hb; (try clear hb))); try go_wp2_with (first | (go_at_call 35; (with_reducible refine (region_May.calls k _ _ l0 true _ ?side1 ?side2 A6.out).mono ?_); (case side1 => exact cb_ HR0 HB); (case side2 => exact HC0.out); rintro e w9 ⟨rfl, hb⟩; replace HB := bs_ HB hb; (try clear hb))))
    go_meet
    case rel => exact ⟨_, (true), (by first | rfl | (simp; done) | (simp [*]; done)), H', ⟨by first | omega | exact Nat.le_refl _⟩, ⟨bh_ HB⟩⟩
   ·rw [if_neg c8] at H
    have c8b0 : decide (a1 < 0) = false := decide_eq_false c8
    clear c8
    (first | rw [c8b0] | (simp only [i64_w, i32_w]; rw [c8b0]) | skip)
    by_cases c10 : a2 < 0
    ·rw [if_pos c10] at H
     have c10b0 : decide (a2 < 0) = true := decide_eq_true c10
     clear c10
     have H' := Aside0.mk H
     clear H
     go_wp2_with (first | (go_at_call 35; (with_reducible refine (region_May.calls k _ _ l0 true _ ?side1 ?side2 A6.out).mono ?_); (case side1 => exact cb_ HR0 HB); (case side2 => exact HC0.out); rintro e w11 ⟨rfl, hb⟩; replace HB := bs_ HB hb; (try clear hb)))
     repeat (go_quiet (first | (go_at_call 35; (with_reducible refine (region_May.calls k _ _ l0 true _ ?side1 ?side2 A6.out).mono ?_); (case side1 => exact cb_ HR0 HB); (case side2 => exact HC0.out); rintro e w11 ⟨rfl, hb⟩; replace HB := bs_ HB hb; (try clear hb))); try go_wp2_with (first | (go_at_call 35; (with_reducible refine (region_May.calls k _ _ l0 true _ ?side1 ?side2 A6.out).mono ?_); (case side1 => exact cb_ HR0 HB); (case side2 => exact HC0.out); rintro e w11 ⟨rfl, hb⟩; replace HB := bs_ HB hb; (try clear hb))))
     go_meet
     case rel => exact ⟨_, (true), (by first | rfl | (simp; done) | (simp [*]; done)), H', ⟨by first | omega | exact Nat.le_refl _⟩, ⟨bh_ HB⟩⟩
    ·rw [if_neg c10] at H
     have c10b0 : decide (a2 < 0) = false := decide_eq_false c10
     clear c10
     replace H := Option.bind_eq_some_iff.mp H
     obtain ⟨t358, A120, H⟩ := H
     replace H : (region_Set.j0 k l0 a1 a2 a3 (!t358)) = some r := H
     have A12 := Aside0.mk A120
     clear A120
     have H' := Aside0.mk H
     clear H
     go_wp2_with (first | (go_at_call 35; (with_reducible refine (region_May.calls k _ _ l0 true _ ?side1 ?side2 A6.out).mono ?_); (case side1 => exact cb_ HR0 HB); (case side2 => exact HC0.out); rintro e w13 ⟨rfl, hb⟩; replace HB := bs_ HB hb; (try clear hb)) | (go_at_call 37; (with_reducible refine (region_Is.calls a3 t358 _ A12.out).mono ?_); rintro e w' ⟨rfl, ⟨nd, rfl⟩⟩; (try first | exact ⟨rfl, _, World.drewN_drewN _ _ _⟩ | exact ⟨rfl, _, Eq.trans (World.drewN_drewN _ _ _) (congrArg (World.drewN _) (Nat.add_assoc _ _ _))⟩)))
     repeat (go_quiet (first | (go_at_call 35; (with_reducible refine (region_May.calls k _ _ l0 true _ ?side1 ?side2 A6.out).mono ?_); (case side1 => exact cb_ HR0 HB); (case side2 => exact HC0.out); rintro e w13 ⟨rfl, hb⟩; replace HB := bs_ HB hb; (try clear hb)) | (go_at_call 37; (with_reducible refine (region_Is.calls a3 t358 _ A12.out).mono ?_); rintro e w' ⟨rfl, ⟨nd, rfl⟩⟩; (try first | exact ⟨rfl, _, World.drewN_drewN _ _ _⟩ | exact ⟨rfl, _, Eq.trans (World.drewN_drewN _ _ _) (congrArg (World.drewN _) (Nat.add_assoc _ _ _))⟩))); try go_wp2_with (first | (go_at_call 35; (with_reducible refine (region_May.calls k _ _ l0 true _ ?side1 ?side2 A6.out).mono ?_); (case side1 => exact cb_ HR0 HB); (case side2 => exact HC0.out); rintro e w13 ⟨rfl, hb⟩; replace HB := bs_ HB hb; (try clear hb)) | (go_at_call 37; (with_reducible refine (region_Is.calls a3 t358 _ A12.out).mono ?_); rintro e w' ⟨rfl, ⟨nd, rfl⟩⟩; (try first | exact ⟨rfl, _, World.drewN_drewN _ _ _⟩ | exact ⟨rfl, _, Eq.trans (World.drewN_drewN _ _ _) (congrArg (World.drewN _) (Nat.add_assoc _ _ _))⟩))))
     go_meet
     case rel => exact ⟨_, (!t358), (by first | rfl | (simp; done) | (simp [*]; done)), H', ⟨by first | omega | exact Nat.le_refl _⟩, ⟨bh_ HB⟩⟩
  ·replace c7 := Bool.eq_false_iff.mpr c7
   subst c7
   have H1 : (region_Set.j0 k l0 a1 a2 a3 true) = some r := by rw [if_neg (show ¬ (false = true) by decide)] at H; exact H
   clear H
   have H := H1
   clear H1
   have H' := Aside0.mk H
   clear H
   go_wp2_with (first | (go_at_call 35; (with_reducible refine (region_May.calls k _ _ l0 false _ ?side1 ?side2 A6.out).mono ?_); (case side1 => exact cb_ HR0 HB); (case side2 => exact HC0.out); rintro e w14 ⟨rfl, hb⟩; replace HB := bs_ HB hb; (try clear hb)))
   repeat (go_quiet (first | (go_at_call 35; (with_reducible refine (region_May.calls k _ _ l0 false _ ?side1 ?side2 A6.out).mono ?_); (case side1 => exact cb_ HR0 HB); (case side2 => exact HC0.out); rintro e w14 ⟨rfl, hb⟩; replace HB := bs_ HB hb; (try clear hb))); try go_wp2_with (first | (go_at_call 35; (with_reducible refine (region_May.calls k _ _ l0 false _ ?side1 ?side2 A6.out).mono ?_); (case side1 => exact cb_ HR0 HB); (case side2 => exact HC0.out); rintro e w14 ⟨rfl, hb⟩; replace HB := bs_ HB hb; (try clear hb))))
   go_meet
   case rel => exact ⟨_, (true), (by first | rfl | (simp; done) | (simp [*]; done)), H', ⟨by first | omega | exact Nat.le_refl _⟩, ⟨bh_ HB⟩⟩
 case rest =>
  clear HC5
  try clear c1
  try clear p2
  try clear c4
  try clear c7
  try clear c8
  try clear c8b0
  try clear c10
  try clear c10b0
  obtain ⟨kq, x31_4, rfl, HA, HJ4, HB⟩ := hcut
  cases kq with
  | zero => exact absurd HA.out (by simp [region_Set.j0])
  | succ kj4 =>
   have H := HA.out
   clear HA
   simp only [region_Set.j0] at H
   by_cases c15 : x31_4 = true
   ·subst c15
    have H1 : ((api_Region.f l0).bind fun t359 => (some t359)) = some r := by rw [if_pos rfl] at H; exact H
    clear H
    have H := H1
    clear H1
    replace H := Option.bind_eq_some_iff.mp H
    obtain ⟨t359, A160, H⟩ := H
    replace H : (some t359) = some r := H
    have A16 := Aside0.mk A160
    clear A160
    obtain rfl := Option.some.inj H
    go_wp2_with (first | (go_at_call 68; (with_reducible refine (api_Region.calls _ _ l0 t359 _ ?side1 ?side2 A16.out).mono ?_); (case side1 => exact cb_ HR0 HB); (case side2 => exact HC0.out); rintro e w17 ⟨v360, rfl, ho0, hb⟩; have HO361 := Aside0.mk (Kd.R_lower ho0 (below_size (bh_ HB))); replace HB := bs_ HB hb; (try clear hb); (try clear hb2); (try clear hk); (try clear hi); (try clear ho0)))
    repeat (go_quiet (first | (go_at_call 68; (with_reducible refine (api_Region.calls _ _ l0 t359 _ ?side1 ?side2 A16.out).mono ?_); (case side1 => exact cb_ HR0 HB); (case side2 => exact HC0.out); rintro e w17 ⟨v360, rfl, ho0, hb⟩; have HO361 := Aside0.mk (Kd.R_lower ho0 (below_size (bh_ HB))); replace HB := bs_ HB hb; (try clear hb); (try clear hb2); (try clear hk); (try clear hi); (try clear ho0))); try go_wp2_with (first | (go_at_call 68; (with_reducible refine (api_Region.calls _ _ l0 t359 _ ?side1 ?side2 A16.out).mono ?_); (case side1 => exact cb_ HR0 HB); (case side2 => exact HC0.out); rintro e w17 ⟨v360, rfl, ho0, hb⟩; have HO361 := Aside0.mk (Kd.R_lower ho0 (below_size (bh_ HB))); replace HB := bs_ HB hb; (try clear hb); (try clear hb2); (try clear hk); (try clear hi); (try clear ho0))))
    go_ret
    exact ⟨_, by first | rfl | (simp [errW_none, errW_some] <;> rfl) | (simp [*, errW_none, errW_some] <;> rfl), by (with_reducible repeat (first | apply Kd.R_alloc | apply Kd.R_drewN | apply Kd.R_drew)); exact HO361.out, bh_ HB⟩
   ·replace c15 := Bool.eq_false_iff.mpr c15
    subst c15
    have H1 : ((region_end.f l0).bind fun t362 => ((region_end.f l0).bind fun t363 => (region_Set.l0 kj4 a3 (mn a1 t362) (wrap64 ((mn a1 t362) + (mn a2 (wrap64 (t363 - (mn a1 t362)))))) ([] : List (S23)) l0 (l0.length : Int) 0))) = some r := by rw [if_neg (show ¬ (false = true) by decide)] at H; exact H
    clear H
    have H := H1
    clear H1
    replace H := Option.bind_eq_some_iff.mp H
    obtain ⟨t362, A180, H⟩ := H
    replace H : ((region_end.f l0).bind fun t363 => (region_Set.l0 kj4 a3 (mn a1 t362) (wrap64 ((mn a1 t362) + (mn a2 (wrap64 (t363 - (mn a1 t362)))))) ([] : List (S23)) l0 (l0.length : Int) 0)) = some r := H
    have A18 := Aside0.mk A180
    clear A180
    obtain ⟨ji19, hji19⟩ : ∃ j_ : Int, (mn a1 t362) = j_ := ⟨_, rfl⟩
    replace H : ((region_end.f l0).bind fun t363 => (region_Set.l0 kj4 a3 ji19 (wrap64 ((ji19) + (mn a2 (wrap64 (t363 - (ji19)))))) ([] : List (S23)) l0 (l0.length : Int) 0)) = some r := by first | (rw [hji19] at H; exact H) | (simp only [hji19] at H ⊢; exact H)
    (try rw [hji19] at A18)
    have hji19_ : (if t362 < a1 then t362 else a1) = ji19 := hji19
    replace H := Option.bind_eq_some_iff.mp H
    obtain ⟨t363, A200, H⟩ := H
    obtain rfl : t362 = t363 := Option.some.inj (A18.out.symm.trans A200)
    replace H : (region_Set.l0 kj4 a3 ji19 (wrap64 ((ji19) + (mn a2 (wrap64 (t362 - (ji19)))))) ([] : List (S23)) l0 (l0.length : Int) 0) = some r := H
    have A20 := Aside0.mk A200
    clear A200
    obtain ⟨ji21, hji21⟩ : ∃ j_ : Int, (mn a2 (wrap64 (t362 - (ji19)))) = j_ := ⟨_, rfl⟩
    replace H : (region_Set.l0 kj4 a3 ji19 (wrap64 ((ji19) + (ji21))) ([] : List (S23)) l0 (l0.length : Int) 0) = some r := by first | (rw [hji21] at H; exact H) | (simp only [hji21] at H ⊢; exact H)
    (try rw [hji21] at A18)
    (try rw [hji21] at A20)
    have hji21_ : (if (wrap64 (t362 - (ji19))) < a2 then (wrap64 (t362 - (ji19))) else a2) = ji21 := hji21
    have hji21k_ : (if (IntKind.i64.wrap (t362 - (ji19))) < a2 then (IntKind.i64.wrap (t362 - (ji19))) else a2) = ji21 := by simp only [i64_w]; exact hji21_
    have H' := Aside0.mk H
    clear H
    go_wp2_with (first | (go_at_call 63; (with_reducible refine (region_end.calls _ _ l0 t362 _ ?side1 ?side2 A18.out).mono ?_); (case side1 => exact cb_ HR0 HB); (case side2 => exact HC0.out); rintro e w22 ⟨rfl, hb⟩; replace HB := bs_ HB hb; (try clear hb)) | (go_at_call 63; (with_reducible refine (region_end.calls _ _ l0 t362 _ ?side1 ?side2 A20.out).mono ?_); (case side1 => exact cb_ HR0 HB); (case side2 => exact HC0.out); rintro e w23 ⟨rfl, hb⟩; replace HB := bs_ HB hb; (try clear hb)))
    repeat (go_quiet (first | (go_at_call 63; (with_reducible refine (region_end.calls _ _ l0 t362 _ ?side1 ?side2 A18.out).mono ?_); (case side1 => exact cb_ HR0 HB); (case side2 => exact HC0.out); rintro e w22 ⟨rfl, hb⟩; replace HB := bs_ HB hb; (try clear hb)) | (go_at_call 63; (with_reducible refine (region_end.calls _ _ l0 t362 _ ?side1 ?side2 A20.out).mono ?_); (case side1 => exact cb_ HR0 HB); (case side2 => exact HC0.out); rintro e w23 ⟨rfl, hb⟩; replace HB := bs_ HB hb; (try clear hb))); try go_wp2_with (first | (go_at_call 63; (with_reducible refine (region_end.calls _ _ l0 t362 _ ?side1 ?side2 A18.out).mono ?_); (case side1 => exact cb_ HR0 HB); (case side2 => exact HC0.out); rintro e w22 ⟨rfl, hb⟩; replace HB := bs_ HB hb; (try clear hb)) | (go_at_call 63; (with_reducible refine (region_end.calls _ _ l0 t362 _ ?side1 ?side2 A20.out).mono ?_); (case side1 => exact cb_ HR0 HB); (case side2 => exact HC0.out); rintro e w23 ⟨rfl, hb⟩; replace HB := bs_ HB hb; (try clear hb))))
    go_loopg [11, 48] kj4 (fun kq v11 v48 w' => ∃ (x11_2 : List (S23)) (x48_2 : Int), v48 = .int .i64 x48_2 ∧ Aside0 (region_Set.l0 kq a3 ji19 (wrap64 ((ji19) + (ji21))) x11_2 l0 (l0.length : Int) x48_2 = some r) ∧ Aside0 (kq ≤ kj4) ∧ Aside0 (Kd.R k23 23 w' w.heap.size (fun _ => True) v11 x11_2) ∧ Aside0 (Below w.heap.size w w'))
    case atStart => exact ⟨(([] : List (S23))), (0), (by first | rfl | (simp; done) | (simp [*]; done)), H', ⟨Nat.le_refl _⟩, ⟨by first | exact Kd.R_nil _ _ _ _ _ | exact Kd.N_nil _ _ _ _ _ | exact Kd.V_nil _ _ _ _ _ | exact Kd.Q_nil _ _ _ _ _ | exact Kd.S_nil _ _ _ _ _⟩, ⟨bh_ HB⟩⟩
    case round =>
     clear H'
     try clear c1
     try clear p2
     try clear c4
     try clear p6
     try clear c7
     try clear c8
     try clear c8b0
     try clear c10
     try clear c10b0
     try clear c15
     try clear p2
     obtain ⟨x11_2, x48_2, rfl, HA, HK2, HO_11, HB⟩ := hrel
     cases gk with
     | zero => exact absurd HA.out (by simp [region_Set.l0])
     | succ k2 =>
      have H := HA.out
      clear HA
      simp only [region_Set.l0] at H
      by_cases c24 : x48_2 < (l0.length : Int)
      ·rw [if_pos c24] at H
       have c24b0 : decide (x48_2 < (l0.length : Int)) = true := decide_eq_true c24
       clear c24
       by_cases c25 : 0 ≤ x48_2
       ·rw [if_pos c25] at H
        have c25b0 : decide (0 ≤ x48_2) = true := decide_eq_true c25
        clear c25
        by_cases c26 : x48_2 < (l0.length : Int)
        ·rw [if_pos c26] at H
         have c26b0 : decide (x48_2 < (l0.length : Int)) = true := decide_eq_true c26
         clear c26
         obtain ⟨ji27, hji27⟩ : ∃ j_ : Int, (mx ji19 ((rd_T23 l0 x48_2).f0)) = j_ := ⟨_, rfl⟩
         replace H : ((region_Push.f x11_2 (wrap64 ((mn (ji27) (wrap64 (((rd_T23 l0 x48_2).f0) + ((rd_T23 l0 x48_2).f1)))) - ((rd_T23 l0 x48_2).f0))) ((rd_T23 l0 x48_2).f2)).bind fun t366 => ((region_Push.f t366 (wrap64 ((mn (mx (wrap64 ((ji19) + (ji21))) ((rd_T23 l0 x48_2).f0)) (wrap64 (((rd_T23 l0 x48_2).f0) + ((rd_T23 l0 x48_2).f1)))) - (mn (ji27) (wrap64 (((rd_T23 l0 x48_2).f0) + ((rd_T23 l0 x48_2).f1)))))) a3).bind fun t369 => ((region_Push.f t369 (wrap64 ((wrap64 (((rd_T23 l0 x48_2).f0) + ((rd_T23 l0 x48_2).f1))) - (mn (mx (wrap64 ((ji19) + (ji21))) ((rd_T23 l0 x48_2).f0)) (wrap64 (((rd_T23 l0 x48_2).f0) + ((rd_T23 l0 x48_2).f1)))))) ((rd_T23 l0 x48_2).f2)).bind fun t372 => (region_Set.l0 k2 a3 ji19 (wrap64 ((ji19) + (ji21))) t372 l0 (l0.length : Int) (wrap64 (x48_2 + 1)))))) = some r := by first | (rw [hji27] at H; exact H) | (simp only [hji27] at H ⊢; exact H)
         have hji27_ : (if ji19 < ((rd_T23 l0 x48_2).f0) then ((rd_T23 l0 x48_2).f0) else ji19) = ji27 := hji27
         obtain ⟨ji28, hji28⟩ : ∃ j_ : Int, (mn (ji27) (wrap64 (((rd_T23 l0 x48_2).f0) + ((rd_T23 l0 x48_2).f1)))) = j_ := ⟨_, rfl⟩
         replace H : ((region_Push.f x11_2 (wrap64 ((ji28) - ((rd_T23 l0 x48_2).f0))) ((rd_T23 l0 x48_2).f2)).bind fun t366 => ((region_Push.f t366 (wrap64 ((mn (mx (wrap64 ((ji19) + (ji21))) ((rd_T23 l0 x48_2).f0)) (wrap64 (((rd_T23 l0 x48_2).f0) + ((rd_T23 l0 x48_2).f1)))) - (ji28))) a3).bind fun t369 => ((region_Push.f t369 (wrap64 ((wrap64 (((rd_T23 l0 x48_2).f0) + ((rd_T23 l0 x48_2).f1))) - (mn (mx (wrap64 ((ji19) + (ji21))) ((rd_T23 l0 x48_2).f0)) (wrap64 (((rd_T23 l0 x48_2).f0) + ((rd_T23 l0 x48_2).f1)))))) ((rd_T23 l0 x48_2).f2)).bind fun t372 => (region_Set.l0 k2 a3 ji19 (wrap64 ((ji19) + (ji21))) t372 l0 (l0.length : Int) (wrap64 (x48_2 + 1)))))) = some r := by first | (rw [hji28] at H; exact H) | (simp only [hji28] at H ⊢; exact H)
         have hji28_ : (if (wrap64 (((rd_T23 l0 x48_2).f0) + ((rd_T23 l0 x48_2).f1))) < (ji27) then (wrap64 (((rd_T23 l0 x48_2).f0) + ((rd_T23 l0 x48_2).f1))) else (ji27)) = ji28 := hji28
         have hji28k_ : (if (IntKind.i64.wrap (((rd_T23 l0 x48_2).f0) + ((rd_T23 l0 x48_2).f1))) < (ji27) then (IntKind.i64.wrap (((rd_T23 l0 x48_2).f0) + ((rd_T23 l0 x48_2).f1))) else (ji27)) = ji28 := by simp only [i64_w]; exact hji28_
         obtain ⟨ji29, hji29⟩ : ∃ j_ : Int, (mx (wrap64 ((ji19) + (ji21))) ((rd_T23 l0 x48_2).f0)) = j_ := ⟨_, rfl⟩
         replace H : ((region_Push.f x11_2 (wrap64 ((ji28) - ((rd_T23 l0 x48_2).f0))) ((rd_T23 l0 x48_2).f2)).bind fun t366 => ((region_Push.f t366 (wrap64 ((mn (ji29) (wrap64 (((rd_T23 l0 x48_2).f0) + ((rd_T23 l0 x48_2).f1)))) - (ji28))) a3).bind fun t369 => ((region_Push.f t369 (wrap64 ((wrap64 (((rd_T23 l0 x48_2).f0) + ((rd_T23 l0 x48_2).f1))) - (mn (ji29) (wrap64 (((rd_T23 l0 x48_2).f0) + ((rd_T23 l0 x48_2).f1)))))) ((rd_T23 l0 x48_2).f2)).bind fun t372 => (region_Set.l0 k2 a3 ji19 (wrap64 ((ji19) + (ji21))) t372 l0 (l0.length : Int) (wrap64 (x48_2 + 1)))))) = some r := by first | (rw [hji29] at H; exact H) | (simp only [hji29] at H ⊢; exact H)
         have hji29_ : (if (wrap64 ((ji19) + (ji21))) < ((rd_T23 l0 x48_2).f0) then ((rd_T23 l0 x48_2).f0) else (wrap64 ((ji19) + (ji21)))) = ji29 := hji29
         have hji29k_ : (if (IntKind.i64.wrap ((ji19) + (ji21))) < ((rd_T23 l0 x48_2).f0) then ((rd_T23 l0 x48_2).f0) else (IntKind.i64.wrap ((ji19) + (ji21)))) = ji29 := by simp only [i64_w]; exact hji29_
         obtain ⟨ji30, hji30⟩ : ∃ j_ : Int, (mn (ji29) (wrap64 (((rd_T23 l0 x48_2).f0) + ((rd_T23 l0 x48_2).f1)))) = j_ := ⟨_, rfl⟩
         replace H : ((region_Push.f x11_2 (wrap64 ((ji28) - ((rd_T23 l0 x48_2).f0))) ((rd_T23 l0 x48_2).f2)).bind fun t366 => ((region_Push.f t366 (wrap64 ((ji30) - (ji28))) a3).bind fun t369 => ((region_Push.f t369 (wrap64 ((wrap64 (((rd_T23 l0 x48_2).f0) + ((rd_T23 l0 x48_2).f1))) - (ji30))) ((rd_T23 l0 x48_2).f2)).bind fun t372 => (region_Set.l0 k2 a3 ji19 (wrap64 ((ji19) + (ji21))) t372 l0 (l0.length : Int) (wrap64 (x48_2 + 1)))))) = some r := by first | (rw [hji30] at H; exact H) | (simp only [hji30] at H ⊢; exact H)
         have hji30_ : (if (wrap64 (((rd_T23 l0 x48_2).f0) + ((rd_T23 l0 x48_2).f1))) < (ji29) then (wrap64 (((rd_T23 l0 x48_2).f0) + ((rd_T23 l0 x48_2).f1))) else (ji29)) = ji30 := hji30
         have hji30k_ : (if (IntKind.i64.wrap (((rd_T23 l0 x48_2).f0) + ((rd_T23 l0 x48_2).f1))) < (ji29) then (IntKind.i64.wrap (((rd_T23 l0 x48_2).f0) + ((rd_T23 l0 x48_2).f1))) else (ji29)) = ji30 := by simp only [i64_w]; exact hji30_
         replace H := Option.bind_eq_some_iff.mp H
         obtain ⟨t366, A310, H⟩ := H
         replace H : ((region_Push.f t366 (wrap64 ((ji30) - (ji28))) a3).bind fun t369 => ((region_Push.f t369 (wrap64 ((wrap64 (((rd_T23 l0 x48_2).f0) + ((rd_T23 l0 x48_2).f1))) - (ji30))) ((rd_T23 l0 x48_2).f2)).bind fun t372 => (region_Set.l0 k2 a3 ji19 (wrap64 ((ji19) + (ji21))) t372 l0 (l0.length : Int) (wrap64 (x48_2 + 1))))) = some r := H
         have A31 := Aside0.mk A310
         clear A310
         replace H := Option.bind_eq_some_iff.mp H
         obtain ⟨t369, A320, H⟩ := H
         replace H : ((region_Push.f t369 (wrap64 ((wrap64 (((rd_T23 l0 x48_2).f0) + ((rd_T23 l0 x48_2).f1))) - (ji30))) ((rd_T23 l0 x48_2).f2)).bind fun t372 => (region_Set.l0 k2 a3 ji19 (wrap64 ((ji19) + (ji21))) t372 l0 (l0.length : Int) (wrap64 (x48_2 + 1)))) = some r := H
         have A32 := Aside0.mk A320
         clear A320
         replace H := Option.bind_eq_some_iff.mp H
         obtain ⟨t372, A330, H⟩ := H
         replace H : (region_Set.l0 k2 a3 ji19 (wrap64 ((ji19) + (ji21))) t372 l0 (l0.length : Int) (wrap64 (x48_2 + 1))) = some r := H
         have A33 := Aside0.mk A330
         clear A330
         have H' := Aside0.mk H
         clear H
         have p364 : 0 ≤ (x48_2 : Int) := of_decide_eq_true (by first | (with_reducible assumption) | assumption)
         have q364 : x48_2 < (l0.length : Int) := of_decide_eq_true (by first | (with_reducible assumption) | assumption)
         obtain ⟨ad364, e364, hx364_0, hx364_1, hx364_2⟩ := at_T23 HR0.out x48_2 p364 q364
         cases e364
         replace hx364_0 := (HB.out.cell (World.block_lt_of_cell? w _ hx364_0)).trans hx364_0
         replace hx364_1 := (HB.out.cell (World.block_lt_of_cell? w _ hx364_1)).trans hx364_1
         replace hx364_2 := (HB.out.cell (World.block_lt_of_cell? w _ hx364_2)).trans hx364_2
         replace p364 := eq_true p364
         replace q364 := eq_true q364
         go_wp2_with (first | ((with_reducible refine gate_dst (N := 13) rfl ?_); refine box_e 13 #[.int .i64 0, .int .i64 0, .int .u8 0] 23 ?_; intro gb365 hg w34 hbox hb; have n0_ := Aside0.mk (Kd.R_below (Kd.R_elderB (by (with_reducible repeat (first | apply Kd.R_alloc | apply Kd.R_drewN | apply Kd.R_drew)); exact HO_11.out) gb365 (Nat.le_of_eq hg.symm)) hb); have n1_ := bs_ HB hb; have n2_ := Aside0.mk hbox; have n3_ := bg_ HB hg; have n4_ := bg_ HB hg; clear HO_11; clear HB; have HO_11 := n0_; have HB := n1_; have BK365 := n2_; have GW365 := n3_; have GE365 := n4_; clear n0_ n1_ n2_ n3_ n4_; clear hb hbox hg; obtain ⟨hcz35_0, hcz35_1, hcz35_2, hfz35_0, hfz35_1, hfz35_2⟩ := c3_ BK365) | ((with_reducible refine gate_store (t := 23) (p := 13) rfl ?_); (try (rw [drewN_self w34]; generalize hq_ : World.drewN w34 _ = w34; have n0_ := Aside0.mk (Kd.R_at hq_ HO_11.out); have n1_ := Aside0.mk (blk_at hq_ BK365.out); have n2_ := Aside0.mk (below_at hq_ HB.out); clear hq_ HO_11 BK365 HB; have HO_11 := n0_; have BK365 := n1_; have HB := n2_; clear n0_ n1_ n2_)); refine store_event (t := 23) (p := 13) (v := ?vo_w36) (w1 := (((w34.setCell ⟨gb365, 0, none⟩ (.int .i64 ((rd_T23 l0 x48_2).f0))).setCell ⟨gb365, 1, none⟩ (.int .i64 ((rd_T23 l0 x48_2).f1))).setCell ⟨gb365, 2, none⟩ (.int .u8 ((rd_T23 l0 x48_2).f2)))) ?hg ?ho ?hn ?hr ?_; (case ho => rfl); (case hg => rfl); (case hn => rfl); (case hr => first | (go_simp; done) | (go_simp; rfl)); intro w36 hw; have n0_ : Aside0 (Kd.R k23 23 w36 w.heap.size (fun k_ => k_ ≠ gb365) u11 x11_2) := ⟨(by rw [hw]; exact (by (with_reducible repeat (first | apply Kd.R_alloc | apply Kd.R_drewN | apply Kd.R_drew)); exact Kd.R_mono (Kd.R_far (p := ⟨gb365, 2, none⟩) (Kd.R_far (p := ⟨gb365, 1, none⟩) (Kd.R_far (p := ⟨gb365, 0, none⟩) (Kd.R_mono HO_11.out (fun k_ hk => (⟨hk, hk.2⟩ : _ ∧ k_ ≠ gb365))) (fun _ hk => hk.2) (.int .i64 ((rd_T23 l0 x48_2).f0))) (fun _ hk => hk.2) (.int .i64 ((rd_T23 l0 x48_2).f1))) (fun _ hk => hk.2) (.int .u8 ((rd_T23 l0 x48_2).f2))) (fun _ hk => hk.1.2)))⟩; have n1_ : Aside0 (w36.heap[gb365]? = some (.cells #[.int .i64 ((rd_T23 l0 x48_2).f0), .int .i64 ((rd_T23 l0 x48_2).f1), .int .u8 ((rd_T23 l0 x48_2).f2)] 23 (0, 0))) := ⟨(by rw [hw]; exact bp_ BK365)⟩; have n2_ : Aside0 (Below w.heap.size w w36) := ⟨(by rw [hw]; exact bh_ HB)⟩; clear hw; clear HO_11; clear BK365; clear HB; have HO_11 := n0_; have BK365 := n1_; have HB := n2_; clear n0_ n1_ n2_; obtain ⟨hcz37_0, hcz37_1, hcz37_2, hfz37_0, hfz37_1, hfz37_2⟩ := c3_ BK365; obtain ⟨Ao38, co38, eo38⟩ := Kd.R_slice HO_11.out; subst eo38) | (go_at_call 62; (with_reducible refine (region_Push.calls (fun k_ => some k_ = (.slice Ao38 x11_2.length co38 : Value).ownBlock) (.slice Ao38 x11_2.length co38) x11_2 (wrap64 ((ji28) - ((rd_T23 l0 x48_2).f0))) ((rd_T23 l0 x48_2).f2) t366 w _ ?side1 ?side2 A31.out).mono ?_); (case side1 => repeat (first | (with_reducible first | exact HB.out | apply below_alloc | apply pw_below_drewN | apply below_drew1 | refine below_set ?_ GE365.out) | exact HB.out)); (case side2 => exact Kd.R_tight rfl HO_11.out); rintro e w39 ⟨v367, rfl, ho0, hb, hkp⟩; have n0_ := Aside0.mk (blk_kept (bq_ BK365) hkp (fun hs_ => (fun e_ => (Kd.R_away HO_11.out (fun _ hk => hk)) e_) hs_)); have n1_ := Aside0.mk (Kd.R_mono (ok' := fun k_ => k_ ≠ gb365) ho0 (fun k_ hk_ => Or.elim hk_ (fun hs_ => fun e_ => (Kd.R_away HO_11.out (fun _ hk => hk)) (by rw [← e_]; exact hs_)) (fun hn_ => (Kd.freshB (g := gb365) (o := .cells #[.int .i64 ((rd_T23 l0 x48_2).f0), .int .i64 ((rd_T23 l0 x48_2).f1), .int .u8 ((rd_T23 l0 x48_2).f2)] 23 (0, 0)) (bq_ BK365) k_ hn_)))); have n2_ := Aside0.mk (hb); clear BK365; clear HB; clear HO_11; have BK365 := n0_; have HO368 := n1_; have HB := n2_; clear n0_ n1_ n2_; (try clear hb); (try clear hkp); (try clear ho0); obtain ⟨Ao40, co40, eo40⟩ := Kd.R_slice HO368.out; subst eo40) | (go_at_call 62; (with_reducible refine (region_Push.calls (fun k_ => some k_ = (.slice Ao40 t366.length co40 : Value).ownBlock) (.slice Ao40 t366.length co40) t366 (wrap64 ((ji30) - (ji28))) a3 t369 w _ ?side1 ?side2 A32.out).mono ?_); (case side1 => repeat (first | (with_reducible first | exact HB.out | apply below_alloc | apply pw_below_drewN | apply below_drew1 | refine below_set ?_ GE365.out) | exact HB.out)); (case side2 => exact Kd.R_tight rfl HO368.out); rintro e w41 ⟨v370, rfl, ho0, hb, hkp⟩; have n0_ := Aside0.mk (blk_kept (bq_ BK365) hkp (fun hs_ => (fun e_ => (Kd.R_away HO368.out (fun _ hk => hk)) e_) hs_)); have n1_ := Aside0.mk (Kd.R_mono (ok' := fun k_ => k_ ≠ gb365) ho0 (fun k_ hk_ => Or.elim hk_ (fun hs_ => fun e_ => (Kd.R_away HO368.out (fun _ hk => hk)) (by rw [← e_]; exact hs_)) (fun hn_ => (Kd.freshB (g := gb365) (o := .cells #[.int .i64 ((rd_T23 l0 x48_2).f0), .int .i64 ((rd_T23 l0 x48_2).f1), .int .u8 ((rd_T23 l0 x48_2).f2)] 23 (0, 0)) (bq_ BK365) k_ hn_)))); have n2_ := Aside0.mk (hb); clear BK365; clear HB; clear HO368; have BK365 := n0_; have HO371 := n1_; have HB := n2_; clear n0_ n1_ n2_; (try clear hb); (try clear hkp); (try clear ho0); obtain ⟨hcz42_0, hcz42_1, hcz42_2, hfz42_0, hfz42_1, hfz42_2⟩ := c3_ BK365; obtain ⟨Ao43, co43, eo43⟩ := Kd.R_slice HO371.out; subst eo43) | (go_at_call 62; (with_reducible refine (region_Push.calls (fun k_ => some k_ = (.slice Ao43 t369.length co43 : Value).ownBlock) (.slice Ao43 t369.length co43) t369 (wrap64 ((wrap64 (((rd_T23 l0 x48_2).f0) + ((rd_T23 l0 x48_2).f1))) - (ji30))) ((rd_T23 l0 x48_2).f2) t372 w _ ?side1 ?side2 A33.out).mono ?_); (case side1 => repeat (first | (with_reducible first | exact HB.out | apply below_alloc | apply pw_below_drewN | apply below_drew1 | refine below_set ?_ GE365.out) | exact HB.out)); (case side2 => exact Kd.R_tight rfl HO371.out); rintro e w44 ⟨v373, rfl, ho0, hb, hkp⟩; have n0_ := Aside0.mk (blk_kept (bq_ BK365) hkp (fun hs_ => (fun e_ => (Kd.R_away HO371.out (fun _ hk => hk)) e_) hs_)); have n1_ := Aside0.mk (Kd.R_mono (ok' := fun k_ => k_ ≠ gb365) ho0 (fun k_ hk_ => Or.elim hk_ (fun hs_ => fun e_ => (Kd.R_away HO371.out (fun _ hk => hk)) (by rw [← e_]; exact hs_)) (fun hn_ => (Kd.freshB (g := gb365) (o := .cells #[.int .i64 ((rd_T23 l0 x48_2).f0), .int .i64 ((rd_T23 l0 x48_2).f1), .int .u8 ((rd_T23 l0 x48_2).f2)] 23 (0, 0)) (bq_ BK365) k_ hn_)))); have n2_ := Aside0.mk (hb); clear BK365; clear HB; clear HO371; have BK365 := n0_; have HO374 := n1_; have HB := n2_; clear n0_ n1_ n2_; (try clear hb); (try clear hkp); (try clear ho0)))
         repeat (go_quiet (first | ((with_reducible refine gate_dst (N := 13) rfl ?_); refine box_e 13 #[.int .i64 0, .int .i64 0, .int .u8 0] 23 ?_; intro gb365 hg w34 hbox hb; have n0_ := Aside0.mk (Kd.R_below (Kd.R_elderB (by (with_reducible repeat (first | apply Kd.R_alloc | apply Kd.R_drewN | apply Kd.R_drew)); exact HO_11.out) gb365 (Nat.le_of_eq hg.symm)) hb); have n1_ := bs_ HB hb; have n2_ := Aside0.mk hbox; have n3_ := bg_ HB hg; have n4_ := bg_ HB hg; clear HO_11; clear HB; have HO_11 := n0_; have HB := n1_; have BK365 := n2_; have GW365 := n3_; have GE365 := n4_; clear n0_ n1_ n2_ n3_ n4_; clear hb hbox hg; obtain ⟨hcz35_0, hcz35_1, hcz35_2, hfz35_0, hfz35_1, hfz35_2⟩ := c3_ BK365) | ((with_reducible refine gate_store (t := 23) (p := 13) rfl ?_); (try (rw [drewN_self w34]; generalize hq_ : World.drewN w34 _ = w34; have n0_ := Aside0.mk (Kd.R_at hq_ HO_11.out); have n1_ := Aside0.mk (blk_at hq_ BK365.out); have n2_ := Aside0.mk (below_at hq_ HB.out); clear hq_ HO_11 BK365 HB; have HO_11 := n0_; have BK365 := n1_; have HB := n2_; clear n0_ n1_ n2_)); refine store_event (t := 23) (p := 13) (v := ?vo_w36) (w1 := (((w34.setCell ⟨gb365, 0, none⟩ (.int .i64 ((rd_T23 l0 x48_2).f0))).setCell ⟨gb365, 1, none⟩ (.int .i64 ((rd_T23 l0 x48_2).f1))).setCell ⟨gb365, 2, none⟩ (.int .u8 ((rd_T23 l0 x48_2).f2)))) ?hg ?ho ?hn ?hr ?_; (case ho => rfl); (case hg => rfl); (case hn => rfl); (case hr => first | (go_simp; done) | (go_simp; rfl)); intro w36 hw; have n0_ : Aside0 (Kd.R k23 23 w36 w.heap.size (fun k_ => k_ ≠ gb365) u11 x11_2) := ⟨(by rw [hw]; exact (by (with_reducible repeat (first | apply Kd.R_alloc | apply Kd.R_drewN | apply Kd.R_drew)); exact Kd.R_mono (Kd.R_far (p := ⟨gb365, 2, none⟩) (Kd.R_far (p := ⟨gb365, 1, none⟩) (Kd.R_far (p := ⟨gb365, 0, none⟩) (Kd.R_mono HO_11.out (fun k_ hk => (⟨hk, hk.2⟩ : _ ∧ k_ ≠ gb365))) (fun _ hk => hk.2) (.int .i64 ((rd_T23 l0 x48_2).f0))) (fun _ hk => hk.2) (.int .i64 ((rd_T23 l0 x48_2).f1))) (fun _ hk => hk.2) (.int .u8 ((rd_T23 l0 x48_2).f2))) (fun _ hk => hk.1.2)))⟩; have n1_ : Aside0 (w36.heap[gb365]? = some (.cells #[.int .i64 ((rd_T23 l0 x48_2).f0), .int .i64 ((rd_T23 l0 x48_2).f1), .int .u8 ((rd_T23 l0 x48_2).f2)] 23 (0, 0))) := ⟨(by rw [hw]; exact bp_ BK365)⟩; have n2_ : Aside0 (Below w.heap.size w w36) := ⟨(by rw [hw]; exact bh_ HB)⟩; clear hw; clear HO_11; clear BK365; clear HB; have HO_11 := n0_; have BK365 := n1_; have HB := n2_; clear n0_ n1_ n2_; obtain ⟨hcz37_0, hcz37_1, hcz37_2, hfz37_0, hfz37_1, hfz37_2⟩ := c3_ BK365; obtain ⟨Ao38, co38, eo38⟩ := Kd.R_slice HO_11.out; subst eo38) | (go_at_call 62; (with_reducible refine (region_Push.calls (fun k_ => some k_ = (.slice Ao38 x11_2.length co38 : Value).ownBlock) (.slice Ao38 x11_2.length co38) x11_2 (wrap64 ((ji28) - ((rd_T23 l0 x48_2).f0))) ((rd_T23 l0 x48_2).f2) t366 w _ ?side1 ?side2 A31.out).mono ?_); (case side1 => repeat (first | (with_reducible first | exact HB.out | apply below_alloc | apply pw_below_drewN | apply below_drew1 | refine below_set ?_ GE365.out) | exact HB.out)); (case side2 => exact Kd.R_tight rfl HO_11.out); rintro e w39 ⟨v367, rfl, ho0, hb, hkp⟩; have n0_ := Aside0.mk (blk_kept (bq_ BK365) hkp (fun hs_ => (fun e_ => (Kd.R_away HO_11.out (fun _ hk => hk)) e_) hs_)); have n1_ := Aside0.mk (Kd.R_mono (ok' := fun k_ => k_ ≠ gb365) ho0 (fun k_ hk_ => Or.elim hk_ (fun hs_ => fun e_ => (Kd.R_away HO_11.out (fun _ hk => hk)) (by rw [← e_]; exact hs_)) (fun hn_ => (Kd.freshB (g := gb365) (o := .cells #[.int .i64 ((rd_T23 l0 x48_2).f0), .int .i64 ((rd_T23 l0 x48_2).f1), .int .u8 ((rd_T23 l0 x48_2).f2)] 23 (0, 0)) (bq_ BK365) k_ hn_)))); have n2_ := Aside0.mk (hb); clear BK365; clear HB; clear HO_11; have BK365 := n0_; have HO368 := n1_; have HB := n2_; clear n0_ n1_ n2_; (try clear hb); (try clear hkp); (try clear ho0); obtain ⟨Ao40, co40, eo40⟩ := Kd.R_slice HO368.out; subst eo40) | (go_at_call 62; (with_reducible refine (region_Push.calls (fun k_ => some k_ = (.slice Ao40 t366.length co40 : Value).ownBlock) (.slice Ao40 t366.length co40) t366 (wrap64 ((ji30) - (ji28))) a3 t369 w _ ?side1 ?side2 A32.out).mono ?_); (case side1 => repeat (first | (with_reducible first | exact HB.out | apply below_alloc | apply pw_below_drewN | apply below_drew1 | refine below_set ?_ GE365.out) | exact HB.out)); (case side2 => exact Kd.R_tight rfl HO368.out); rintro e w41 ⟨v370, rfl, ho0, hb, hkp⟩; have n0_ := Aside0.mk (blk_kept (bq_ BK365) hkp (fun hs_ => (fun e_ => (Kd.R_away HO368.out (fun _ hk => hk)) e_) hs_)); have n1_ := Aside0.mk (Kd.R_mono (ok' := fun k_ => k_ ≠ gb365) ho0 (fun k_ hk_ => Or.elim hk_ (fun hs_ => fun e_ => (Kd.R_away HO368.out (fun _ hk => hk)) (by rw [← e_]; exact hs_)) (fun hn_ => (Kd.freshB (g := gb365) (o := .cells #[.int .i64 ((rd_T23 l0 x48_2).f0), .int .i64 ((rd_T23 l0 x48_2).f1), .int .u8 ((rd_T23 l0 x48_2).f2)] 23 (0, 0)) (bq_ BK365) k_ hn_)))); have n2_ := Aside0.mk (hb); clear BK365; clear HB; clear HO368; have BK365 := n0_; have HO371 := n1_; have HB := n2_; clear n0_ n1_ n2_; (try clear hb); (try clear hkp); (try clear ho0); obtain ⟨hcz42_0, hcz42_1, hcz42_2, hfz42_0, hfz42_1, hfz42_2⟩ := c3_ BK365; obtain ⟨Ao43, co43, eo43⟩ := Kd.R_slice HO371.out; subst eo43) | (go_at_call 62; (with_reducible refine (region_Push.calls (fun k_ => some k_ = (.slice Ao43 t369.length co43 : Value).ownBlock) (.slice Ao43 t369.length co43) t369 (wrap64 ((wrap64 (((rd_T23 l0 x48_2).f0) + ((rd_T23 l0 x48_2).f1))) - (ji30))) ((rd_T23 l0 x48_2).f2) t372 w _ ?side1 ?side2 A33.out).mono ?_); (case side1 => repeat (first | (with_reducible first | exact HB.out | apply below_alloc | apply pw_below_drewN | apply below_drew1 | refine below_set ?_ GE365.out) | exact HB.out)); (case side2 => exact Kd.R_tight rfl HO371.out); rintro e w44 ⟨v373, rfl, ho0, hb, hkp⟩; have n0_ := Aside0.mk (blk_kept (bq_ BK365) hkp (fun hs_ => (fun e_ => (Kd.R_away HO371.out (fun _ hk => hk)) e_) hs_)); have n1_ := Aside0.mk (Kd.R_mono (ok' := fun k_ => k_ ≠ gb365) ho0 (fun k_ hk_ => Or.elim hk_ (fun hs_ => fun e_ => (Kd.R_away HO371.out (fun _ hk => hk)) (by rw [← e_]; exact hs_)) (fun hn_ => (Kd.freshB (g := gb365) (o := .cells #[.int .i64 ((rd_T23 l0 x48_2).f0), .int .i64 ((rd_T23 l0 x48_2).f1), .int .u8 ((rd_T23 l0 x48_2).f2)] 23 (0, 0)) (bq_ BK365) k_ hn_)))); have n2_ := Aside0.mk (hb); clear BK365; clear HB; clear HO371; have BK365 := n0_; have HO374 := n1_; have HB := n2_; clear n0_ n1_ n2_; (try clear hb); (try clear hkp); (try clear ho0))); try go_wp2_with (first | ((with_reducible refine gate_dst (N := 13) rfl ?_); refine box_e 13 #[.int .i64 0, .int .i64 0, .int .u8 0] 23 ?_; intro gb365 hg w34 hbox hb; have n0_ := Aside0.mk (Kd.R_below (Kd.R_elderB (by (with_reducible repeat (first | apply Kd.R_alloc | apply Kd.R_drewN | apply Kd.R_drew)); exact HO_11.out) gb365 (Nat.le_of_eq hg.symm)) hb); have n1_ := bs_ HB hb; have n2_ := Aside0.mk hbox; have n3_ := bg_ HB hg; have n4_ := bg_ HB hg; clear HO_11; clear HB; have HO_11 := n0_; have HB := n1_; have BK365 := n2_; have GW365 := n3_; have GE365 := n4_; clear n0_ n1_ n2_ n3_ n4_; clear hb hbox hg; obtain ⟨hcz35_0, hcz35_1, hcz35_2, hfz35_0, hfz35_1, hfz35_2⟩ := c3_ BK365) | ((with_reducible refine gate_store (t := 23) (p := 13) rfl ?_); (try (rw [drewN_self w34]; generalize hq_ : World.drewN w34 _ = w34; have n0_ := Aside0.mk (Kd.R_at hq_ HO_11.out); have n1_ := Aside0.mk (blk_at hq_ BK365.out); have n2_ := Aside0.mk (below_at hq_ HB.out); clear hq_ HO_11 BK365 HB; have HO_11 := n0_; have BK365 := n1_; have HB := n2_; clear n0_ n1_ n2_)); refine store_event (t := 23) (p := 13) (v := ?vo_w36) (w1 := (((w34.setCell ⟨gb365, 0, none⟩ (.int .i64 ((rd_T23 l0 x48_2).f0))).setCell ⟨gb365, 1, none⟩ (.int .i64 ((rd_T23 l0 x48_2).f1))).setCell ⟨gb365, 2, none⟩ (.int .u8 ((rd_T23 l0 x48_2).f2)))) ?hg ?ho ?hn ?hr ?_; (case ho => rfl); (case hg => rfl); (case hn => rfl); (case hr => first | (go_simp; done) | (go_simp; rfl)); intro w36 hw; have n0_ : Aside0 (Kd.R k23 23 w36 w.heap.size (fun k_ => k_ ≠ gb365) u11 x11_2) := ⟨(by rw [hw]; exact (by (with_reducible repeat (first | apply Kd.R_alloc | apply Kd.R_drewN | apply Kd.R_drew)); exact Kd.R_mono (Kd.R_far (p := ⟨gb365, 2, none⟩) (Kd.R_far (p := ⟨gb365, 1, none⟩) (Kd.R_far (p := ⟨gb365, 0, none⟩) (Kd.R_mono HO_11.out (fun k_ hk => (⟨hk, hk.2⟩ : _ ∧ k_ ≠ gb365))) (fun _ hk => hk.2) (.int .i64 ((rd_T23 l0 x48_2).f0))) (fun _ hk => hk.2) (.int .i64 ((rd_T23 l0 x48_2).f1))) (fun _ hk => hk.2) (.int .u8 ((rd_T23 l0 x48_2).f2))) (fun _ hk => hk.1.2)))⟩; have n1_ : Aside0 (w36.heap[gb365]? = some (.cells #[.int .i64 ((rd_T23 l0 x48_2).f0), .int .i64 ((rd_T23 l0 x48_2).f1), .int .u8 ((rd_T23 l0 x48_2).f2)] 23 (0, 0))) := ⟨(by rw [hw]; exact bp_ BK365)⟩; have n2_ : Aside0 (Below w.heap.size w w36) := ⟨(by rw [hw]; exact bh_ HB)⟩; clear hw; clear HO_11; clear BK365; clear HB; have HO_11 := n0_; have BK365 := n1_; have HB := n2_; clear n0_ n1_ n2_; obtain ⟨hcz37_0, hcz37_1, hcz37_2, hfz37_0, hfz37_1, hfz37_2⟩ := c3_ BK365; obtain ⟨Ao38, co38, eo38⟩ := Kd.R_slice HO_11.out; subst eo38) | (go_at_call 62; (with_reducible refine (region_Push.calls (fun k_ => some k_ = (.slice Ao38 x11_2.length co38 : Value).ownBlock) (.slice Ao38 x11_2.length co38) x11_2 (wrap64 ((ji28) - ((rd_T23 l0 x48_2).f0))) ((rd_T23 l0 x48_2).f2) t366 w _ ?side1 ?side2 A31.out).mono ?_); (case side1 => repeat (first | (with_reducible first | exact HB.out | apply below_alloc | apply pw_below_drewN | apply below_drew1 | refine below_set ?_ GE365.out) | exact HB.out)); (case side2 => exact Kd.R_tight rfl HO_11.out); rintro e w39 ⟨v367, rfl, ho0, hb, hkp⟩; have n0_ := Aside0.mk (blk_kept (bq_ BK365) hkp (fun hs_ => (fun e_ => (Kd.R_away HO_11.out (fun _ hk => hk)) e_) hs_)); have n1_ := Aside0.mk (Kd.R_mono (ok' := fun k_ => k_ ≠ gb365) ho0 (fun k_ hk_ => Or.elim hk_ (fun hs_ => fun e_ => (Kd.R_away HO_11.out (fun _ hk => hk)) (by rw [← e_]; exact hs_)) (fun hn_ => (Kd.freshB (g := gb365) (o := .cells #[.int .i64 ((rd_T23 l0 x48_2).f0), .int .i64 ((rd_T23 l0 x48_2).f1), .int .u8 ((rd_T23 l0 x48_2).f2)] 23 (0, 0)) (bq_ BK365) k_ hn_)))); have n2_ := Aside0.mk (hb); clear BK365; clear HB; clear HO_11; have BK365 := n0_; have HO368 := n1_; have HB := n2_; clear n0_ n1_ n2_; (try clear hb); (try clear hkp); (try clear ho0); obtain ⟨Ao40, co40, eo40⟩ := Kd.R_slice HO368.out; subst eo40) | (go_at_call 62; (with_reducible refine (region_Push.calls (fun k_ => some k_ = (.slice Ao40 t366.length co40 : Value).ownBlock) (.slice Ao40 t366.length co40) t366 (wrap64 ((ji30) - (ji28))) a3 t369 w _ ?side1 ?side2 A32.out).mono ?_); (case side1 => repeat (first | (with_reducible first | exact HB.out | apply below_alloc | apply pw_below_drewN | apply below_drew1 | refine below_set ?_ GE365.out) | exact HB.out)); (case side2 => exact Kd.R_tight rfl HO368.out); rintro e w41 ⟨v370, rfl, ho0, hb, hkp⟩; have n0_ := Aside0.mk (blk_kept (bq_ BK365) hkp (fun hs_ => (fun e_ => (Kd.R_away HO368.out (fun _ hk => hk)) e_) hs_)); have n1_ := Aside0.mk (Kd.R_mono (ok' := fun k_ => k_ ≠ gb365) ho0 (fun k_ hk_ => Or.elim hk_ (fun hs_ => fun e_ => (Kd.R_away HO368.out (fun _ hk => hk)) (by rw [← e_]; exact hs_)) (fun hn_ => (Kd.freshB (g := gb365) (o := .cells #[.int .i64 ((rd_T23 l0 x48_2).f0), .int .i64 ((rd_T23 l0 x48_2).f1), .int .u8 ((rd_T23 l0 x48_2).f2)] 23 (0, 0)) (bq_ BK365) k_ hn_)))); have n2_ := Aside0.mk (hb); clear BK365; clear HB; clear HO368; have BK365 := n0_; have HO371 := n1_; have HB := n2_; clear n0_ n1_ n2_; (try clear hb); (try clear hkp); (try clear ho0); obtain ⟨hcz42_0, hcz42_1, hcz42_2, hfz42_0, hfz42_1, hfz42_2⟩ := c3_ BK365; obtain ⟨Ao43, co43, eo43⟩ := Kd.R_slice HO371.out; subst eo43) | (go_at_call 62; (with_reducible refine (region_Push.calls (fun k_ => some k_ = (.slice Ao43 t369.length co43 : Value).ownBlock) (.slice Ao43 t369.length co43) t369 (wrap64 ((wrap64 (((rd_T23 l0 x48_2).f0) + ((rd_T23 l0 x48_2).f1))) - (ji30))) ((rd_T23 l0 x48_2).f2) t372 w _ ?side1 ?side2 A33.out).mono ?_); (case side1 => repeat (first | (with_reducible first | exact HB.out | apply below_alloc | apply pw_below_drewN | apply below_drew1 | refine below_set ?_ GE365.out) | exact HB.out)); (case side2 => exact Kd.R_tight rfl HO371.out); rintro e w44 ⟨v373, rfl, ho0, hb, hkp⟩; have n0_ := Aside0.mk (blk_kept (bq_ BK365) hkp (fun hs_ => (fun e_ => (Kd.R_away HO371.out (fun _ hk => hk)) e_) hs_)); have n1_ := Aside0.mk (Kd.R_mono (ok' := fun k_ => k_ ≠ gb365) ho0 (fun k_ hk_ => Or.elim hk_ (fun hs_ => fun e_ => (Kd.R_away HO371.out (fun _ hk => hk)) (by rw [← e_]; exact hs_)) (fun hn_ => (Kd.freshB (g := gb365) (o := .cells #[.int .i64 ((rd_T23 l0 x48_2).f0), .int .i64 ((rd_T23 l0 x48_2).f1), .int .u8 ((rd_T23 l0 x48_2).f2)] 23 (0, 0)) (bq_ BK365) k_ hn_)))); have n2_ := Aside0.mk (hb); clear BK365; clear HB; clear HO371; have BK365 := n0_; have HO374 := n1_; have HB := n2_; clear n0_ n1_ n2_; (try clear hb); (try clear hkp); (try clear ho0))))
         go_roundg k2
         case measure => have := HJ4.out; have := HK2.out; omega
         case rel => exact ⟨(t372), (wrap64 (x48_2 + 1)), (by first | rfl | (simp; done) | (simp [*]; done)), H', ⟨by have := HJ4.out; have := HK2.out; omega⟩, ⟨by (with_reducible repeat (first | apply Kd.R_alloc | apply Kd.R_drewN | apply Kd.R_drew)); exact Kd.R_mono HO374.out (fun _ hk => trivial)⟩, ⟨bh_ HB⟩⟩
        ·rw [if_neg c26] at H
         exact absurd H (by simp)
       ·rw [if_neg c25] at H
        exact absurd H (by simp)
      ·rw [if_neg c24] at H
       have c24b0 : decide (x48_2 < (l0.length : Int)) = false := decide_eq_false c24
       clear c24
       obtain rfl := Option.some.inj H
       go_wp2
       repeat (go_quiet (fail); try go_wp2)
       go_ret
       exact ⟨_, by first | rfl | (simp [errW_none, errW_some] <;> rfl) | (simp only [← hji19, ← hji21]; first | rfl | (simp [errW_none, errW_some] <;> rfl)) | (simp [*, errW_none, errW_some] <;> rfl), by (with_reducible repeat (first | apply Kd.R_alloc | apply Kd.R_drewN | apply Kd.R_drew)); exact HO_11.out, bh_ HB⟩

end Go.Proofs.YtlcablcpcbmgeaaGreatDoor.P
