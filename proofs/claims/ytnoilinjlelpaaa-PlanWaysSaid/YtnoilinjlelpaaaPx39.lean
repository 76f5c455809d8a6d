/- Laid by a program of this session's own (wip/wprint.py, over the kit's print.py): functions of the given program as plain Lean functions, and that the program's calls come to their answers. -/
import Derived.Test.YtnoilinjlelpaaaPx0
import Derived.Test.YtnoilinjlelpaaaPx7
import Derived.Test.YtnoilinjlelpaaaPx8
import Derived.Test.YtnoilinjlelpaaaPx12
import Derived.Test.YtnoilinjlelpaaaPx19
import Derived.Test.YtnoilinjlelpaaaPx38
namespace Go.Proofs.Ytnoilinjlelpaaa.P
open Go.RowKit Go.Proofs.YtnoilinjlelpaaaW.PrintWords Go.Proofs.YtnoilinjlelpaaaW.PrintLast Go.Proofs.YtnoilinjlelpaaaW.PrintMore
attribute [local go_sem] max2_int min2_int max_two min_two max_three min_three max_four min_four   -- for this text's walks alone
set_option linter.unusedVariables false
set_option linter.unusedSimpArgs false

/-! ### salvorlaw18_PlanWays: function 6 -/
mutual
def salvorlaw18_PlanWays.j0 : Nat → Int → List (S83) → Int → Option (Bool)
 | 0, _, _, _ => none
 | k + 1, x0, x1, x2 => (salvorlaw18_Map.f k x0 x1 0 0).bind fun bt586 => ((salvorlaw18_Opts.f x2 0 false).bind fun bt593 => ((plan_Next.f k bt593.1 bt593.2.1 bt593.2.2 bt586.1 bt586.2.1 bt586.2.2.1 bt586.2.2.2).bind fun bt596 => ((salvorlaw18_Opts.f x2 0 true).bind fun bt599 => ((plan_Next.f k bt599.1 bt599.2.1 bt599.2.2 bt586.1 bt586.2.1 bt586.2.2.1 bt586.2.2.2).bind fun bt602 => ((region_First.f k bt586.2.2.2 63 0).bind fun bt607 => ((region_Last.f k bt586.2.2.2 63 (wrap64 (x0))).bind fun bt612 => (if (bt607.2.2.2 != bt612.2.2.2) = true then (some false) else (salvorlaw18_PlanWays.j1 k x2 bt607.2.2.2 bt596.1 bt596.2.1 bt596.2.2 bt602.1 bt602.2.1 bt602.2.2 bt607.1 bt607.2.1 bt607.2.2.1 bt612.1 bt612.2.1 bt612.2.2.1))))))))
def salvorlaw18_PlanWays.j1 : Nat → Int → Bool → Int → Int → Int → Int → Int → Int → Int → Int → Int → Int → Int → Int → Option (Bool)
 | 0, _, _, _, _, _, _, _, _, _, _, _, _, _, _ => none
 | k + 1, x2, x11, x606000, x606001, x606002, x607000, x607001, x607002, x612000, x612001, x612002, x617000, x617001, x617002 => if x11 = true then (if x606000 = 1 then (if x607000 = 1 then (if x606001 = x612000 then (if (wrap64 (x607001 + x607002)) = (wrap64 (x617000 + x617001)) then (if x606002 ≤ (wrap64 ((wrap64 ((wrap64 (Int.tmod x2 6)) + 1)) * 8)) then (if x607002 ≤ (wrap64 ((wrap64 ((wrap64 (Int.tmod x2 6)) + 1)) * 8)) then (if (wrap64 (x606001 + x606002)) = (wrap64 (x612000 + x612001)) then (if x607001 = x617000 then ((salvorlaw18_PlanRuns.f k).bind fun t617 => (some t617)) else (if (Int.tmod x607001 8) = 0 then (if x607002 > (wrap64 ((wrap64 ((wrap64 ((wrap64 (Int.tmod x2 6)) + 1)) * 8)) - 8)) then ((salvorlaw18_PlanRuns.f k).bind fun t618 => (some t618)) else (some false)) else (some false))) else (if (Int.tmod (wrap64 (x606001 + x606002)) 8) = 0 then (if x606002 > (wrap64 ((wrap64 ((wrap64 ((wrap64 (Int.tmod x2 6)) + 1)) * 8)) - 8)) then (if x607001 = x617000 then ((salvorlaw18_PlanRuns.f k).bind fun t619 => (some t619)) else (if (Int.tmod x607001 8) = 0 then (if x607002 > (wrap64 ((wrap64 ((wrap64 ((wrap64 (Int.tmod x2 6)) + 1)) * 8)) - 8)) then ((salvorlaw18_PlanRuns.f k).bind fun t620 => (some t620)) else (some false)) else (some false))) else (some false)) else (some false))) else (some false)) else (some false)) else (some false)) else (some false)) else (some false)) else (some false)) else (if x606000 = 1 then (some false) else (if x607000 = 1 then (some false) else ((salvorlaw18_PlanRuns.f k).bind fun t621 => (some t621))))
end
def salvorlaw18_PlanWays.f (k : Nat) (a0 : Int) (l1 : List (S83)) (a2 : Int) : Option (Bool) := if (l1.length : Int) > 20 then ((salvorlaw18_PlanRuns.f k).bind fun t585 => (some t585)) else (salvorlaw18_PlanWays.j0 k a0 l1 a2)
theorem salvorlaw18_PlanWays.mono_l : ∀ k, (∀ y0 y1 y2, LeO (salvorlaw18_PlanWays.j0 k y0 y1 y2) (salvorlaw18_PlanWays.j0 (k + 1) y0 y1 y2)) ∧ (∀ y0 y1 y2 y3 y4 y5 y6 y7 y8 y9 y10 y11 y12 y13, LeO (salvorlaw18_PlanWays.j1 k y0 y1 y2 y3 y4 y5 y6 y7 y8 y9 y10 y11 y12 y13) (salvorlaw18_PlanWays.j1 (k + 1) y0 y1 y2 y3 y4 y5 y6 y7 y8 y9 y10 y11 y12 y13))
 | 0 => ⟨fun _ _ _ r h => by simp [salvorlaw18_PlanWays.j0] at h, fun _ _ _ _ _ _ _ _ _ _ _ _ _ _ r h => by simp [salvorlaw18_PlanWays.j1] at h⟩
 | k + 1 => by
  obtain ⟨ih0, ih1⟩ := salvorlaw18_PlanWays.mono_l k
  refine ⟨?_, ?_⟩
  ·intro y0 y1 y2
   unfold salvorlaw18_PlanWays.j0
   repeat' first
   | (with_reducible exact ih0 _ _ _)
   | (with_reducible exact ih1 _ _ _ _ _ _ _ _ _ _ _ _ _ _)
   | (with_reducible exact plan_Next.mono _ _ _ _ _ _ _ _)
   | (with_reducible exact region_First.mono _ _ _ _)
   | (with_reducible exact region_Last.mono _ _ _ _)
   | (with_reducible exact salvorlaw18_Map.mono _ _ _ _ _)
   | (with_reducible exact salvorlaw18_PlanRuns.mono _)
   | (with_reducible exact LeO.refl _)
   | (with_reducible exact LeO.none _)
   | (with_reducible refine LeO.ite ?_ ?_)
   | (with_reducible refine LeO.bind ?_ (fun _ => ?_))
   | exact ih0 _ _ _
   | exact ih1 _ _ _ _ _ _ _ _ _ _ _ _ _ _
   | exact plan_Next.mono _ _ _ _ _ _ _ _
   | exact region_First.mono _ _ _ _
   | exact region_Last.mono _ _ _ _
   | exact salvorlaw18_Map.mono _ _ _ _ _
   | exact salvorlaw18_PlanRuns.mono _
   | exact LeO.none _
   | refine LeO.ite ?_ ?_
   | refine LeO.bind ?_ (fun _ => ?_)
  ·intro y0 y1 y2 y3 y4 y5 y6 y7 y8 y9 y10 y11 y12 y13
   unfold salvorlaw18_PlanWays.j1
   repeat' first
   | (with_reducible exact ih0 _ _ _)
   | (with_reducible exact ih1 _ _ _ _ _ _ _ _ _ _ _ _ _ _)
   | (with_reducible exact plan_Next.mono _ _ _ _ _ _ _ _)
   | (with_reducible exact region_First.mono _ _ _ _)
   | (with_reducible exact region_Last.mono _ _ _ _)
   | (with_reducible exact salvorlaw18_Map.mono _ _ _ _ _)
   | (with_reducible exact salvorlaw18_PlanRuns.mono _)
   | (with_reducible exact LeO.refl _)
   | (with_reducible exact LeO.none _)
   | (with_reducible refine LeO.ite ?_ ?_)
   | (with_reducible refine LeO.bind ?_ (fun _ => ?_))
   | exact ih0 _ _ _
   | exact ih1 _ _ _ _ _ _ _ _ _ _ _ _ _ _
   | exact plan_Next.mono _ _ _ _ _ _ _ _
   | exact region_First.mono _ _ _ _
   | exact region_Last.mono _ _ _ _
   | exact salvorlaw18_Map.mono _ _ _ _ _
   | exact salvorlaw18_PlanRuns.mono _
   | exact LeO.none _
   | refine LeO.ite ?_ ?_
   | refine LeO.bind ?_ (fun _ => ?_)
theorem salvorlaw18_PlanWays.mono : ∀ a0 a1 a2 k, LeO (salvorlaw18_PlanWays.f k a0 a1 a2) (salvorlaw18_PlanWays.f (k + 1) a0 a1 a2) := by
 intro a0 a1 a2 k
 obtain ⟨ih0, ih1⟩ := salvorlaw18_PlanWays.mono_l k
 unfold salvorlaw18_PlanWays.f
 repeat' first
   | (with_reducible exact ih0 _ _ _)
   | (with_reducible exact ih1 _ _ _ _ _ _ _ _ _ _ _ _ _ _)
   | (with_reducible exact plan_Next.mono _ _ _ _ _ _ _ _)
   | (with_reducible exact region_First.mono _ _ _ _)
   | (with_reducible exact region_Last.mono _ _ _ _)
   | (with_reducible exact salvorlaw18_Map.mono _ _ _ _ _)
   | (with_reducible exact salvorlaw18_PlanRuns.mono _)
   | (with_reducible exact LeO.refl _)
   | (with_reducible exact LeO.none _)
   | (with_reducible refine LeO.ite ?_ ?_)
   | (with_reducible refine LeO.bind ?_ (fun _ => ?_))
   | exact ih0 _ _ _
   | exact ih1 _ _ _ _ _ _ _ _ _ _ _ _ _ _
   | exact plan_Next.mono _ _ _ _ _ _ _ _
   | exact region_First.mono _ _ _ _
   | exact region_Last.mono _ _ _ _
   | exact salvorlaw18_Map.mono _ _ _ _ _
   | exact salvorlaw18_PlanRuns.mono _
   | exact LeO.none _
   | refine LeO.ite ?_ ?_
   | refine LeO.bind ?_ (fun _ => ?_)
/-- What a run of the law that answers true has seen (by hand). -/
def WaysN (a2 : Int) : Int := wrap64 (wrap64 (wrap64 (Int.tmod a2 6) + 1) * 8)
theorem ways_inv (k : Nat) (a2 : Int) (ok : Bool) (f0 f1 f2 b0 b1 b2 x0 x1 x2 y0 y1 y2 : Int) (h : salvorlaw18_PlanWays.j1 k a2 ok f0 f1 f2 b0 b1 b2 x0 x1 x2 y0 y1 y2 = some true) :
    (ok = true ∧ f0 = 1 ∧ b0 = 1 ∧ f1 = x0 ∧ wrap64 (b1 + b2) = wrap64 (y0 + y1) ∧ f2 ≤ WaysN a2 ∧ b2 ≤ WaysN a2 ∧ (wrap64 (f1 + f2) = wrap64 (x0 + x1) ∨ (¬ wrap64 (f1 + f2) = wrap64 (x0 + x1) ∧ Int.tmod (wrap64 (f1 + f2)) 8 = 0 ∧ f2 > wrap64 (WaysN a2 - 8))) ∧ (b1 = y0 ∨ (¬ b1 = y0 ∧ Int.tmod b1 8 = 0 ∧ b2 > wrap64 (WaysN a2 - 8))) ∧ ∃ k, salvorlaw18_PlanRuns.f k = some true) ∨
    (ok = false ∧ ¬ f0 = 1 ∧ ¬ b0 = 1 ∧ ∃ k, salvorlaw18_PlanRuns.f k = some true) := by
  cases k with
  | zero => simp [salvorlaw18_PlanWays.j1] at h
  | succ k =>
    have hr : ∀ o : Option Bool, (o.bind fun t => some t) = o := fun o => by cases o <;> rfl
    unfold salvorlaw18_PlanWays.j1 at h
    simp only [hr] at h
    unfold WaysN
    generalize wrap64 (wrap64 (wrap64 (Int.tmod a2 6) + 1) * 8) = n at h ⊢
    by_cases q1 : ok = true
    · rw [if_pos q1] at h
      by_cases q2 : f0 = 1
      · rw [if_pos q2] at h
        by_cases q3 : b0 = 1
        · rw [if_pos q3] at h
          by_cases q4 : f1 = x0
          · rw [if_pos q4] at h
            by_cases q5 : wrap64 (b1 + b2) = wrap64 (y0 + y1)
            · rw [if_pos q5] at h
              by_cases q6 : f2 ≤ n
              · rw [if_pos q6] at h
                by_cases q7 : b2 ≤ n
                · rw [if_pos q7] at h
                  by_cases q8 : wrap64 (f1 + f2) = wrap64 (x0 + x1)
                  · rw [if_pos q8] at h
                    by_cases q9 : b1 = y0
                    · rw [if_pos q9] at h
                      exact .inl ⟨q1, q2, q3, q4, q5, q6, q7, .inl q8, .inl q9, _, h⟩
                    · rw [if_neg q9] at h
                      by_cases q10 : Int.tmod b1 8 = 0
                      · rw [if_pos q10] at h
                        by_cases q11 : b2 > wrap64 (n - 8)
                        · rw [if_pos q11] at h
                          exact .inl ⟨q1, q2, q3, q4, q5, q6, q7, .inl q8, .inr ⟨q9, q10, q11⟩, _, h⟩
                        · rw [if_neg q11] at h; exact absurd h (by simp)
                      · rw [if_neg q10] at h; exact absurd h (by simp)
                  · rw [if_neg q8] at h
                    by_cases q12 : Int.tmod (wrap64 (f1 + f2)) 8 = 0
                    · rw [if_pos q12] at h
                      by_cases q13 : f2 > wrap64 (n - 8)
                      · rw [if_pos q13] at h
                        by_cases q9 : b1 = y0
                        · rw [if_pos q9] at h
                          exact .inl ⟨q1, q2, q3, q4, q5, q6, q7, .inr ⟨q8, q12, q13⟩, .inl q9, _, h⟩
                        · rw [if_neg q9] at h
                          by_cases q10 : Int.tmod b1 8 = 0
                          · rw [if_pos q10] at h
                            by_cases q11 : b2 > wrap64 (n - 8)
                            · rw [if_pos q11] at h
                              exact .inl ⟨q1, q2, q3, q4, q5, q6, q7, .inr ⟨q8, q12, q13⟩, .inr ⟨q9, q10, q11⟩, _, h⟩
                            · rw [if_neg q11] at h; exact absurd h (by simp)
                          · rw [if_neg q10] at h; exact absurd h (by simp)
                      · rw [if_neg q13] at h; exact absurd h (by simp)
                    · rw [if_neg q12] at h; exact absurd h (by simp)
                · rw [if_neg q7] at h; exact absurd h (by simp)
              · rw [if_neg q6] at h; exact absurd h (by simp)
            · rw [if_neg q5] at h; exact absurd h (by simp)
          · rw [if_neg q4] at h; exact absurd h (by simp)
        · rw [if_neg q3] at h; exact absurd h (by simp)
      · rw [if_neg q2] at h; exact absurd h (by simp)
    · rw [if_neg q1] at h
      by_cases q2 : f0 = 1
      · rw [if_pos q2] at h; exact absurd h (by simp)
      · rw [if_neg q2] at h
        by_cases q3 : b0 = 1
        · rw [if_pos q3] at h; exact absurd h (by simp)
        · rw [if_neg q3] at h
          exact .inr ⟨by simpa using q1, q2, q3, _, h⟩
def salvorlaw18_PlanWays.T4 : Bool × List (List Nat × List Nat) := (true, [([], []), ([0], [0]), ([], []), ([1, 2, 1], [1, 2]), ([], []), ([4, 3], [4]), ([], []), ([5, 6, 5], [5, 6]), ([], []), ([], []), ([8, 3, 7, 0, 1, 2, 3, 8, 9], [3, 8]), ([9, 7, 10, 0, 1, 2, 3, 4, 5, 6, 7, 8, 9, 10], [7, 9])])
def salvorlaw18_PlanWays.B4 : List Nat := [0, 1, 0, 7, 0, 31, 0, 127, 0, 0, 1023, 2047]
theorem salvorlaw18_PlanWays.tab4 : rtab .any (opsOf Try.f6 4) = salvorlaw18_PlanWays.T4 := by kernel_rfl
theorem salvorlaw18_PlanWays.bits4 : waitsOk salvorlaw18_PlanWays.T4.2 salvorlaw18_PlanWays.B4 = true := by kernel_rfl
def salvorlaw18_PlanWays.T12 : Bool × List (List Nat × List Nat) := (true, [([], []), ([0], [0]), ([], []), ([2], [2]), ([1, 3], [1, 3]), ([], []), ([5], [5]), ([4, 0, 1, 2, 3, 4], [4]), ([6, 7, 0, 1, 2, 3, 4, 5, 6, 7], [6])])
def salvorlaw18_PlanWays.B12 : List Nat := [0, 1, 0, 4, 15, 0, 32, 31, 255]
theorem salvorlaw18_PlanWays.tab12 : rtab .any (opsOf Try.f6 12) = salvorlaw18_PlanWays.T12 := by kernel_rfl
theorem salvorlaw18_PlanWays.bits12 : waitsOk salvorlaw18_PlanWays.T12.2 salvorlaw18_PlanWays.B12 = true := by kernel_rfl
set_option maxHeartbeats 8000000 in
set_option maxRecDepth 100000 in
theorem salvorlaw18_PlanWays.calls (k : Nat) (a0 : Int) (A1 : Option Addr) (c1 : Nat) (l1 : List (S83)) (a2 : Int) (r : Bool) (w : World) (hr1 : Kd.C k83 w A1 l1.length l1) (hc1 : l1.length ≤ c1) (h : salvorlaw18_PlanWays.f k a0 l1 a2 = some r) (hrt : r = true) :
  Calls Try.prog 6 #[.int .u8 a0, .slice A1 l1.length c1, .int .u8 a2] w fun e w' => e = .returned (.bool r) ∧ Below w.heap.size w w' := by
 have HT := Aside0.mk hrt
 clear hrt
 have hu26 := Try.underlying26
 have hu29 := Try.underlying29
 have hu33 := Try.underlying33
 have HR1 := Aside0.mk hr1
 have HC1 := Aside0.mk hc1
 clear hr1 hc1
 have HB := Aside0.mk (Below.refl w.heap.size w)
 have H : (if (l1.length : Int) > 20 then ((salvorlaw18_PlanRuns.f k).bind fun t585 => (some t585)) else (salvorlaw18_PlanWays.j0 k a0 l1 a2)) = some r := h
 clear h
 have HC4 := Aside0.mk H
 clear H
 go_enter Try.func6, Try.ntmps6
 go_upto_if 19 with (fail)
 go_cut [] (fun wc => ∃ (kq : Nat), Aside0 (salvorlaw18_PlanWays.j0 kq a0 l1 a2 = some r) ∧ Aside0 (kq ≤ k) ∧ Aside0 (Below w.heap.size w wc))
 case first =>
  have H := HC4.out
  clear HC4
  by_cases c5 : (l1.length : Int) > 20
  ·rw [if_pos c5] at H
   have c5b0 : decide (20 < (l1.length : Int)) = true := decide_eq_true c5
   have c5b1 : decide (20 < l1.length) = true := decide_eq_true (by omega)
   clear c5
   (first | rw [c5b0] | (simp only [i64_w, i32_w]; rw [c5b0]) | skip)
   replace H := Option.bind_eq_some_iff.mp H
   obtain ⟨t585, A60, H⟩ := H
   replace H : (some t585) = some r := H
   have A6 := Aside0.mk A60
   clear A60
   obtain rfl := Option.some.inj H
   go_wp2_with (first | ((with_reducible refine gate_callee (f := 3) rfl ?_); refine gl_ (some 20) rfl rfl Try.func3 (by kernel_rfl) rfl #[] rfl ?_; (with_reducible refine (salvorlaw18_PlanRuns.calls k  t585 _ A6.out).mono ?_); rintro e w7 ⟨rfl, hb⟩; refine ⟨_, rfl, ?_⟩; replace HB := bs_ HB hb; (try clear hb)))
   go_ret
   exact ⟨by first | rfl | (simp [errW_none, errW_some] <;> rfl) | (simp [*, errW_none, errW_some] <;> rfl), bh_ HB⟩
  ·rw [if_neg c5] at H
   have c5b0 : decide (20 < (l1.length : Int)) = false := decide_eq_false c5
   have c5b1 : decide (20 < l1.length) = false := decide_eq_false (by omega)
   clear c5
   (first | rw [c5b0] | (simp only [i64_w, i32_w]; rw [c5b0]) | skip)
   have H' := Aside0.mk H
   clear H
   go_wp2
   go_meet
   case rel => exact ⟨_, H', ⟨by first | omega | exact Nat.le_refl _⟩, ⟨bh_ HB⟩⟩
 case rest =>
  clear HC4
  try clear c1
  try clear p2
  try clear c3
  try clear c5
  try clear c5b0
  try clear c5b1
  try clear c6
  obtain ⟨kq, HA, HJ3, HB⟩ := hcut
  cases kq with
  | zero => exact absurd HA.out (by simp [salvorlaw18_PlanWays.j0])
  | succ kj3 =>
   have H := HA.out
   clear HA
   simp only [salvorlaw18_PlanWays.j0] at H
   replace H := Option.bind_eq_some_iff.mp H
   obtain ⟨⟨t586, t587, t588, t589⟩, A80, H⟩ := H
   replace H : ((salvorlaw18_Opts.f a2 0 false).bind fun bt593 => ((plan_Next.f kj3 bt593.1 bt593.2.1 bt593.2.2 t586 t587 t588 t589).bind fun bt596 => ((salvorlaw18_Opts.f a2 0 true).bind fun bt599 => ((plan_Next.f kj3 bt599.1 bt599.2.1 bt599.2.2 t586 t587 t588 t589).bind fun bt602 => ((region_First.f kj3 t589 63 0).bind fun bt607 => ((region_Last.f kj3 t589 63 (wrap64 (a0))).bind fun bt612 => (if (bt607.2.2.2 != bt612.2.2.2) = true then (some false) else (salvorlaw18_PlanWays.j1 kj3 a2 bt607.2.2.2 bt596.1 bt596.2.1 bt596.2.2 bt602.1 bt602.2.1 bt602.2.2 bt607.1 bt607.2.1 bt607.2.2.1 bt612.1 bt612.2.1 bt612.2.2.1)))))))) = some r := H
   have A8 := Aside0.mk A80
   clear A80
   replace H := Option.bind_eq_some_iff.mp H
   obtain ⟨⟨t593, t594, t595⟩, A90, H⟩ := H
   replace H : ((plan_Next.f kj3 t593 t594 t595 t586 t587 t588 t589).bind fun bt596 => ((salvorlaw18_Opts.f a2 0 true).bind fun bt599 => ((plan_Next.f kj3 bt599.1 bt599.2.1 bt599.2.2 t586 t587 t588 t589).bind fun bt602 => ((region_First.f kj3 t589 63 0).bind fun bt607 => ((region_Last.f kj3 t589 63 (wrap64 (a0))).bind fun bt612 => (if (bt607.2.2.2 != bt612.2.2.2) = true then (some false) else (salvorlaw18_PlanWays.j1 kj3 a2 bt607.2.2.2 bt596.1 bt596.2.1 bt596.2.2 bt602.1 bt602.2.1 bt602.2.2 bt607.1 bt607.2.1 bt607.2.2.1 bt612.1 bt612.2.1 bt612.2.2.1))))))) = some r := H
   have A9 := Aside0.mk A90
   clear A90
   replace H := Option.bind_eq_some_iff.mp H
   obtain ⟨⟨t596, t597, t598⟩, A100, H⟩ := H
   replace H : ((salvorlaw18_Opts.f a2 0 true).bind fun bt599 => ((plan_Next.f kj3 bt599.1 bt599.2.1 bt599.2.2 t586 t587 t588 t589).bind fun bt602 => ((region_First.f kj3 t589 63 0).bind fun bt607 => ((region_Last.f kj3 t589 63 (wrap64 (a0))).bind fun bt612 => (if (bt607.2.2.2 != bt612.2.2.2) = true then (some false) else (salvorlaw18_PlanWays.j1 kj3 a2 bt607.2.2.2 t596 t597 t598 bt602.1 bt602.2.1 bt602.2.2 bt607.1 bt607.2.1 bt607.2.2.1 bt612.1 bt612.2.1 bt612.2.2.1)))))) = some r := H
   have A10 := Aside0.mk A100
   clear A100
   replace H := Option.bind_eq_some_iff.mp H
   obtain ⟨⟨t599, t600, t601⟩, A110, H⟩ := H
   replace H : ((plan_Next.f kj3 t599 t600 t601 t586 t587 t588 t589).bind fun bt602 => ((region_First.f kj3 t589 63 0).bind fun bt607 => ((region_Last.f kj3 t589 63 (wrap64 (a0))).bind fun bt612 => (if (bt607.2.2.2 != bt612.2.2.2) = true then (some false) else (salvorlaw18_PlanWays.j1 kj3 a2 bt607.2.2.2 t596 t597 t598 bt602.1 bt602.2.1 bt602.2.2 bt607.1 bt607.2.1 bt607.2.2.1 bt612.1 bt612.2.1 bt612.2.2.1))))) = some r := H
   have A11 := Aside0.mk A110
   clear A110
   replace H := Option.bind_eq_some_iff.mp H
   obtain ⟨⟨t602, t603, t604⟩, A120, H⟩ := H
   replace H : ((region_First.f kj3 t589 63 0).bind fun bt607 => ((region_Last.f kj3 t589 63 (wrap64 (a0))).bind fun bt612 => (if (bt607.2.2.2 != bt612.2.2.2) = true then (some false) else (salvorlaw18_PlanWays.j1 kj3 a2 bt607.2.2.2 t596 t597 t598 t602 t603 t604 bt607.1 bt607.2.1 bt607.2.2.1 bt612.1 bt612.2.1 bt612.2.2.1)))) = some r := H
   have A12 := Aside0.mk A120
   clear A120
   replace H := Option.bind_eq_some_iff.mp H
   obtain ⟨⟨t607, t608, t609, t610⟩, A130, H⟩ := H
   replace H : ((region_Last.f kj3 t589 63 (wrap64 (a0))).bind fun bt612 => (if (t610 != bt612.2.2.2) = true then (some false) else (salvorlaw18_PlanWays.j1 kj3 a2 t610 t596 t597 t598 t602 t603 t604 t607 t608 t609 bt612.1 bt612.2.1 bt612.2.2.1))) = some r := H
   have A13 := Aside0.mk A130
   clear A130
   replace H := Option.bind_eq_some_iff.mp H
   obtain ⟨⟨t612, t613, t614, t615⟩, A140, H⟩ := H
   replace H : (if (t610 != t615) = true then (some false) else (salvorlaw18_PlanWays.j1 kj3 a2 t610 t596 t597 t598 t602 t603 t604 t607 t608 t609 t612 t613 t614)) = some r := H
   have A14 := Aside0.mk A140
   clear A140
   have HC15 := Aside0.mk H
   clear H
   try go_wp2_with (first | ((with_reducible refine gate_callee (f := 21) rfl ?_); refine gl_ (some 23) rfl rfl Try.func21 (by kernel_rfl) rfl #[.int .u8 a0, .slice A1 l1.length c1, .int .u8 0, .int .u8 0] rfl ?_; (with_reducible refine (salvorlaw18_Map.calls kj3 a0 _ _ l1 0 0 t586 t587 t588 t589 _ ?side1 ?side2 A8.out).mono ?_); (case side1 => exact cb_ HR1 HB); (case side2 => exact HC1.out); rintro e w16 ⟨v590, rfl, ho0, hb⟩; refine ⟨_, rfl, ?_⟩; have HO591 := Aside0.mk (Kd.R_lower ho0 (below_size (bh_ HB))); replace HB := bs_ HB hb; (try clear hb); (try clear hb2); (try clear hk); (try clear hi); (try clear ho0)) | ((with_reducible refine gate_dst (N := 7) rfl ?_); refine box_e 7 #[.int .i64 0, .int .i64 0, .int .u8 0, .slice none 0 0] 26 ?_; intro gb592 hg w17 hbox hb; have n0_ := Aside0.mk (Kd.R_below (by (with_reducible repeat (first | apply Kd.R_alloc | apply Kd.R_drewN | apply Kd.R_drew)); exact HO591.out) hb); have n1_ := bs_ HB hb; have n2_ := Aside0.mk hbox; have n3_ := bg_ HB hg; have n4_ := bg_ HB hg; clear HO591; clear HB; have HO591 := n0_; have HB := n1_; have BK592 := n2_; have GW592 := n3_; have GE592 := n4_; clear n0_ n1_ n2_ n3_ n4_; clear hb hbox hg; obtain ⟨hcz18_0, hcz18_1, hcz18_2, hcz18_3, hfz18_0, hfz18_1, hfz18_2, hfz18_3⟩ := c4_ BK592; obtain ⟨Ao19, co19, eo19⟩ := Kd.R_slice HO591.out; subst eo19) | ((with_reducible refine gate_store (t := 26) (p := 7) rfl ?_); refine store_event (t := 26) (p := 7) (v := ?vo_w20) (w1 := ((((w17.setCell ⟨gb592, 0, none⟩ (.int .i64 t586)).setCell ⟨gb592, 1, none⟩ (.int .i64 t587)).setCell ⟨gb592, 2, none⟩ (.int .u8 t588)).setCell ⟨gb592, 3, none⟩ (.slice Ao19 t589.length co19))) ?hg ?ho ?hn ?hr ?_; (case ho => rfl); (case hg => rfl); (case hn => rfl); (case hr => first | (go_simp; done) | (go_simp; rfl)); intro w20 hw; have n0_ : Aside0 (Kd.R k33 33 w20 w.heap.size (fun _ => True) (.slice Ao19 t589.length co19) t589) := ⟨(by rw [hw]; exact (by (with_reducible repeat (first | apply Kd.R_alloc | apply Kd.R_drewN | apply Kd.R_drew)); exact Kd.R_mono (Kd.R_far (p := ⟨gb592, 3, none⟩) (Kd.R_far (p := ⟨gb592, 2, none⟩) (Kd.R_far (p := ⟨gb592, 1, none⟩) (Kd.R_far (p := ⟨gb592, 0, none⟩) (Kd.R_types HO591.out BK592.out (by decide)) (fun _ hk => hk.2) (.int .i64 t586)) (fun _ hk => hk.2) (.int .i64 t587)) (fun _ hk => hk.2) (.int .u8 t588)) (fun _ hk => hk.2) (.slice Ao19 t589.length co19)) (fun _ hk => trivial)))⟩; have n1_ : Aside0 (w20.heap[gb592]? = some (.cells #[.int .i64 t586, .int .i64 t587, .int .u8 t588, .slice Ao19 t589.length co19] 26 (0, 0))) := ⟨(by rw [hw]; exact bp_ BK592)⟩; have n2_ : Aside0 (Below w.heap.size w w20) := ⟨(by rw [hw]; exact bh_ HB)⟩; clear hw; clear HO591; clear BK592; clear HB; have HO591 := n0_; have BK592 := n1_; have HB := n2_; clear n0_ n1_ n2_))
   replace HO591 := Aside0.mk (Kd.R_drew HO591.out)
   replace BK592 := Aside0.mk (blk_drew BK592.out)
   replace HB := Aside0.mk (below_drew1 HB.out)
   refine start_ (n := 12) (S := fun w' => w'.cell? ⟨gb592, 0, none⟩ = some (.int .i64 t586) ∧ w'.cell? ⟨gb592, 1, none⟩ = some (.int .i64 t587) ∧ w'.cell? ⟨gb592, 2, none⟩ = some (.int .u8 t588) ∧ w'.cell? ⟨gb592, 3, none⟩ = some (.slice Ao19 t589.length co19)) (ds := []) #[false, false, false, false, false, false, false, false, false, false, false, false] (by kernel_rfl) rfl rfl (k4_ BK592) (fun hHeld => ?_); refine with_tabW salvorlaw18_PlanWays.tab4 salvorlaw18_PlanWays.bits4 (fun HT_ HW_ => ?_)
   generalize w20.drew = w21 at HO591 BK592 HB hHeld ⊢
   refine pu_ 0 24 (lb_ 12 1) rfl rfl (ao_ HT_) ?_
   refine pu_ 4 28 (lb_ 12 17) rfl rfl (ao_ HT_) ?_
   refine tk_ 2 26 (lb_ 12 21) rfl rfl (take_ofW HT_.out HW_.out (by kernel_rfl)) hHeld ?_
   refine tk_ 6 30 (lb_ 12 85) rfl rfl (take_ofW HT_.out HW_.out (by kernel_rfl)) hHeld ?_
   refine join_ (σ := Nat × Nat) 2 #[true, true, true, true, true, true, true, true, true, true, false, false] (fun s_ => [(25, .agg #[.int .i64 t593, .int .i64 t594, .bool t595]), (27, .agg #[.int .i64 t596, .int .i64 t597, .int .i64 t598]), (29, .agg #[.int .i64 t599, .int .i64 t600, .bool t601]), (31, .agg #[.int .i64 t602, .int .i64 t603, .int .i64 t604]), (8, .pointer (some ⟨s_.1, 0, none⟩)), (9, .pointer (some ⟨s_.2, 0, none⟩))]) (fun s_ w' => (w'.cell? ⟨gb592, 0, none⟩ = some (.int .i64 t586) ∧ w'.cell? ⟨gb592, 1, none⟩ = some (.int .i64 t587) ∧ w'.cell? ⟨gb592, 2, none⟩ = some (.int .u8 t588) ∧ w'.cell? ⟨gb592, 3, none⟩ = some (.slice Ao19 t589.length co19)) ∧ (Kd.R k33 33 w' w.heap.size (fun _ => True) (.slice Ao19 t589.length co19) t589) ∧ (w'.heap[gb592]? = some (.cells #[.int .i64 t586, .int .i64 t587, .int .u8 t588, .slice Ao19 t589.length co19] 26 (0, 0))) ∧ (w'.heap[s_.1]? = some (.cells #[.int .i64 0, .int .i64 0, .int .i64 0] 29 (0, 0))) ∧ (w'.heap[s_.2]? = some (.cells #[.int .i64 0, .int .i64 0, .int .i64 0] 29 (0, 0))) ∧ (w.heap.size ≤ s_.1) ∧ (w.heap.size ≤ s_.1) ∧ (gb592 ≠ s_.1) ∧ (s_.1 ≠ gb592) ∧ (s_.2 ≠ s_.1) ∧ (s_.1 ≠ s_.2) ∧ (w.heap.size ≤ s_.2) ∧ (w.heap.size ≤ s_.2) ∧ (gb592 ≠ s_.2) ∧ (s_.2 ≠ gb592) ∧ (Below w.heap.size w w')) ?_ ?_
   rotate_left
   ·intro hJ1_3_5_7_8_9
    refine join_ (σ := Nat) 3 #[true, true, true, true, true, true, true, true, true, false, false, false] (fun s_ => [(25, .agg #[.int .i64 t593, .int .i64 t594, .bool t595]), (27, .agg #[.int .i64 t596, .int .i64 t597, .int .i64 t598]), (29, .agg #[.int .i64 t599, .int .i64 t600, .bool t601]), (31, .agg #[.int .i64 t602, .int .i64 t603, .int .i64 t604]), (8, .pointer (some ⟨s_, 0, none⟩))]) (fun s_ w' => (w'.cell? ⟨gb592, 0, none⟩ = some (.int .i64 t586) ∧ w'.cell? ⟨gb592, 1, none⟩ = some (.int .i64 t587) ∧ w'.cell? ⟨gb592, 2, none⟩ = some (.int .u8 t588) ∧ w'.cell? ⟨gb592, 3, none⟩ = some (.slice Ao19 t589.length co19)) ∧ (Kd.R k33 33 w' w.heap.size (fun _ => True) (.slice Ao19 t589.length co19) t589) ∧ (w'.heap[gb592]? = some (.cells #[.int .i64 t586, .int .i64 t587, .int .u8 t588, .slice Ao19 t589.length co19] 26 (0, 0))) ∧ (w'.heap[s_]? = some (.cells #[.int .i64 0, .int .i64 0, .int .i64 0] 29 (0, 0))) ∧ (w.heap.size ≤ s_) ∧ (w.heap.size ≤ s_) ∧ (gb592 ≠ s_) ∧ (s_ ≠ gb592) ∧ (Below w.heap.size w w')) ?_ ?_
    rotate_left
    ·intro hJ1_3_5_7_8
     refine join_ (σ := Nat) 3 #[true, true, true, true, true, true, true, true, false, true, false, false] (fun s_ => [(25, .agg #[.int .i64 t593, .int .i64 t594, .bool t595]), (27, .agg #[.int .i64 t596, .int .i64 t597, .int .i64 t598]), (29, .agg #[.int .i64 t599, .int .i64 t600, .bool t601]), (31, .agg #[.int .i64 t602, .int .i64 t603, .int .i64 t604]), (9, .pointer (some ⟨s_, 0, none⟩))]) (fun s_ w' => (w'.cell? ⟨gb592, 0, none⟩ = some (.int .i64 t586) ∧ w'.cell? ⟨gb592, 1, none⟩ = some (.int .i64 t587) ∧ w'.cell? ⟨gb592, 2, none⟩ = some (.int .u8 t588) ∧ w'.cell? ⟨gb592, 3, none⟩ = some (.slice Ao19 t589.length co19)) ∧ (Kd.R k33 33 w' w.heap.size (fun _ => True) (.slice Ao19 t589.length co19) t589) ∧ (w'.heap[gb592]? = some (.cells #[.int .i64 t586, .int .i64 t587, .int .u8 t588, .slice Ao19 t589.length co19] 26 (0, 0))) ∧ (w'.heap[s_]? = some (.cells #[.int .i64 0, .int .i64 0, .int .i64 0] 29 (0, 0))) ∧ (w.heap.size ≤ s_) ∧ (w.heap.size ≤ s_) ∧ (gb592 ≠ s_) ∧ (s_ ≠ gb592) ∧ (Below w.heap.size w w')) ?_ ?_
     rotate_left
     ·intro hJ1_3_5_7_9
      refine join_ (σ := Nat × Nat) 3 #[true, true, true, true, true, true, true, false, true, true, false, false] (fun s_ => [(25, .agg #[.int .i64 t593, .int .i64 t594, .bool t595]), (27, .agg #[.int .i64 t596, .int .i64 t597, .int .i64 t598]), (29, .agg #[.int .i64 t599, .int .i64 t600, .bool t601]), (8, .pointer (some ⟨s_.1, 0, none⟩)), (9, .pointer (some ⟨s_.2, 0, none⟩))]) (fun s_ w' => (w'.cell? ⟨gb592, 0, none⟩ = some (.int .i64 t586) ∧ w'.cell? ⟨gb592, 1, none⟩ = some (.int .i64 t587) ∧ w'.cell? ⟨gb592, 2, none⟩ = some (.int .u8 t588) ∧ w'.cell? ⟨gb592, 3, none⟩ = some (.slice Ao19 t589.length co19)) ∧ (Kd.R k33 33 w' w.heap.size (fun _ => True) (.slice Ao19 t589.length co19) t589) ∧ (w'.heap[gb592]? = some (.cells #[.int .i64 t586, .int .i64 t587, .int .u8 t588, .slice Ao19 t589.length co19] 26 (0, 0))) ∧ (w'.heap[s_.1]? = some (.cells #[.int .i64 0, .int .i64 0, .int .i64 0] 29 (0, 0))) ∧ (w'.heap[s_.2]? = some (.cells #[.int .i64 0, .int .i64 0, .int .i64 0] 29 (0, 0))) ∧ (w.heap.size ≤ s_.1) ∧ (w.heap.size ≤ s_.1) ∧ (gb592 ≠ s_.1) ∧ (s_.1 ≠ gb592) ∧ (s_.2 ≠ s_.1) ∧ (s_.1 ≠ s_.2) ∧ (w.heap.size ≤ s_.2) ∧ (w.heap.size ≤ s_.2) ∧ (gb592 ≠ s_.2) ∧ (s_.2 ≠ gb592) ∧ (Below w.heap.size w w')) ?_ ?_
      rotate_left
      ·intro hJ1_3_5_8_9
       refine join_ (σ := Unit) 4 #[true, true, true, true, true, true, true, true, false, false, false, false] (fun s_ => [(25, .agg #[.int .i64 t593, .int .i64 t594, .bool t595]), (27, .agg #[.int .i64 t596, .int .i64 t597, .int .i64 t598]), (29, .agg #[.int .i64 t599, .int .i64 t600, .bool t601]), (31, .agg #[.int .i64 t602, .int .i64 t603, .int .i64 t604])]) (fun s_ w' => (w'.cell? ⟨gb592, 0, none⟩ = some (.int .i64 t586) ∧ w'.cell? ⟨gb592, 1, none⟩ = some (.int .i64 t587) ∧ w'.cell? ⟨gb592, 2, none⟩ = some (.int .u8 t588) ∧ w'.cell? ⟨gb592, 3, none⟩ = some (.slice Ao19 t589.length co19)) ∧ (Kd.R k33 33 w' w.heap.size (fun _ => True) (.slice Ao19 t589.length co19) t589) ∧ (w'.heap[gb592]? = some (.cells #[.int .i64 t586, .int .i64 t587, .int .u8 t588, .slice Ao19 t589.length co19] 26 (0, 0))) ∧ (Below w.heap.size w w')) ?_ ?_
       rotate_left
       ·intro hJ1_3_5_7
        refine join_ (σ := Nat) 4 #[true, true, true, true, true, true, true, false, true, false, false, false] (fun s_ => [(25, .agg #[.int .i64 t593, .int .i64 t594, .bool t595]), (27, .agg #[.int .i64 t596, .int .i64 t597, .int .i64 t598]), (29, .agg #[.int .i64 t599, .int .i64 t600, .bool t601]), (8, .pointer (some ⟨s_, 0, none⟩))]) (fun s_ w' => (w'.cell? ⟨gb592, 0, none⟩ = some (.int .i64 t586) ∧ w'.cell? ⟨gb592, 1, none⟩ = some (.int .i64 t587) ∧ w'.cell? ⟨gb592, 2, none⟩ = some (.int .u8 t588) ∧ w'.cell? ⟨gb592, 3, none⟩ = some (.slice Ao19 t589.length co19)) ∧ (Kd.R k33 33 w' w.heap.size (fun _ => True) (.slice Ao19 t589.length co19) t589) ∧ (w'.heap[gb592]? = some (.cells #[.int .i64 t586, .int .i64 t587, .int .u8 t588, .slice Ao19 t589.length co19] 26 (0, 0))) ∧ (w'.heap[s_]? = some (.cells #[.int .i64 0, .int .i64 0, .int .i64 0] 29 (0, 0))) ∧ (w.heap.size ≤ s_) ∧ (w.heap.size ≤ s_) ∧ (gb592 ≠ s_) ∧ (s_ ≠ gb592) ∧ (Below w.heap.size w w')) ?_ ?_
        rotate_left
        ·intro hJ1_3_5_8
         refine join_ (σ := Nat) 4 #[true, true, true, true, true, true, true, false, false, true, false, false] (fun s_ => [(25, .agg #[.int .i64 t593, .int .i64 t594, .bool t595]), (27, .agg #[.int .i64 t596, .int .i64 t597, .int .i64 t598]), (29, .agg #[.int .i64 t599, .int .i64 t600, .bool t601]), (9, .pointer (some ⟨s_, 0, none⟩))]) (fun s_ w' => (w'.cell? ⟨gb592, 0, none⟩ = some (.int .i64 t586) ∧ w'.cell? ⟨gb592, 1, none⟩ = some (.int .i64 t587) ∧ w'.cell? ⟨gb592, 2, none⟩ = some (.int .u8 t588) ∧ w'.cell? ⟨gb592, 3, none⟩ = some (.slice Ao19 t589.length co19)) ∧ (Kd.R k33 33 w' w.heap.size (fun _ => True) (.slice Ao19 t589.length co19) t589) ∧ (w'.heap[gb592]? = some (.cells #[.int .i64 t586, .int .i64 t587, .int .u8 t588, .slice Ao19 t589.length co19] 26 (0, 0))) ∧ (w'.heap[s_]? = some (.cells #[.int .i64 0, .int .i64 0, .int .i64 0] 29 (0, 0))) ∧ (w.heap.size ≤ s_) ∧ (w.heap.size ≤ s_) ∧ (gb592 ≠ s_) ∧ (s_ ≠ gb592) ∧ (Below w.heap.size w w')) ?_ ?_
         rotate_left
         ·intro hJ1_3_5_9
          refine join_ (σ := Nat × Nat) 4 #[true, true, true, true, true, false, true, false, true, true, false, false] (fun s_ => [(25, .agg #[.int .i64 t593, .int .i64 t594, .bool t595]), (27, .agg #[.int .i64 t596, .int .i64 t597, .int .i64 t598]), (8, .pointer (some ⟨s_.1, 0, none⟩)), (9, .pointer (some ⟨s_.2, 0, none⟩))]) (fun s_ w' => (w'.cell? ⟨gb592, 0, none⟩ = some (.int .i64 t586) ∧ w'.cell? ⟨gb592, 1, none⟩ = some (.int .i64 t587) ∧ w'.cell? ⟨gb592, 2, none⟩ = some (.int .u8 t588) ∧ w'.cell? ⟨gb592, 3, none⟩ = some (.slice Ao19 t589.length co19)) ∧ (Kd.R k33 33 w' w.heap.size (fun _ => True) (.slice Ao19 t589.length co19) t589) ∧ (w'.heap[gb592]? = some (.cells #[.int .i64 t586, .int .i64 t587, .int .u8 t588, .slice Ao19 t589.length co19] 26 (0, 0))) ∧ (w'.heap[s_.1]? = some (.cells #[.int .i64 0, .int .i64 0, .int .i64 0] 29 (0, 0))) ∧ (w'.heap[s_.2]? = some (.cells #[.int .i64 0, .int .i64 0, .int .i64 0] 29 (0, 0))) ∧ (w.heap.size ≤ s_.1) ∧ (w.heap.size ≤ s_.1) ∧ (gb592 ≠ s_.1) ∧ (s_.1 ≠ gb592) ∧ (s_.2 ≠ s_.1) ∧ (s_.1 ≠ s_.2) ∧ (w.heap.size ≤ s_.2) ∧ (w.heap.size ≤ s_.2) ∧ (gb592 ≠ s_.2) ∧ (s_.2 ≠ gb592) ∧ (Below w.heap.size w w')) ?_ ?_
          rotate_left
          ·intro hJ1_3_8_9
           refine join_ (σ := Unit) 5 #[true, true, true, true, true, true, true, false, false, false, false, false] (fun s_ => [(25, .agg #[.int .i64 t593, .int .i64 t594, .bool t595]), (27, .agg #[.int .i64 t596, .int .i64 t597, .int .i64 t598]), (29, .agg #[.int .i64 t599, .int .i64 t600, .bool t601])]) (fun s_ w' => (w'.cell? ⟨gb592, 0, none⟩ = some (.int .i64 t586) ∧ w'.cell? ⟨gb592, 1, none⟩ = some (.int .i64 t587) ∧ w'.cell? ⟨gb592, 2, none⟩ = some (.int .u8 t588) ∧ w'.cell? ⟨gb592, 3, none⟩ = some (.slice Ao19 t589.length co19)) ∧ (Kd.R k33 33 w' w.heap.size (fun _ => True) (.slice Ao19 t589.length co19) t589) ∧ (w'.heap[gb592]? = some (.cells #[.int .i64 t586, .int .i64 t587, .int .u8 t588, .slice Ao19 t589.length co19] 26 (0, 0))) ∧ (Below w.heap.size w w')) ?_ ?_
           rotate_left
           ·intro hJ1_3_5
            refine join_ (σ := Nat) 5 #[true, true, true, true, true, false, true, false, true, false, false, false] (fun s_ => [(25, .agg #[.int .i64 t593, .int .i64 t594, .bool t595]), (27, .agg #[.int .i64 t596, .int .i64 t597, .int .i64 t598]), (8, .pointer (some ⟨s_, 0, none⟩))]) (fun s_ w' => (w'.cell? ⟨gb592, 0, none⟩ = some (.int .i64 t586) ∧ w'.cell? ⟨gb592, 1, none⟩ = some (.int .i64 t587) ∧ w'.cell? ⟨gb592, 2, none⟩ = some (.int .u8 t588) ∧ w'.cell? ⟨gb592, 3, none⟩ = some (.slice Ao19 t589.length co19)) ∧ (Kd.R k33 33 w' w.heap.size (fun _ => True) (.slice Ao19 t589.length co19) t589) ∧ (w'.heap[gb592]? = some (.cells #[.int .i64 t586, .int .i64 t587, .int .u8 t588, .slice Ao19 t589.length co19] 26 (0, 0))) ∧ (w'.heap[s_]? = some (.cells #[.int .i64 0, .int .i64 0, .int .i64 0] 29 (0, 0))) ∧ (w.heap.size ≤ s_) ∧ (w.heap.size ≤ s_) ∧ (gb592 ≠ s_) ∧ (s_ ≠ gb592) ∧ (Below w.heap.size w w')) ?_ ?_
            rotate_left
            ·intro hJ1_3_8
             refine join_ (σ := Nat) 5 #[true, true, true, true, true, false, true, false, false, true, false, false] (fun s_ => [(25, .agg #[.int .i64 t593, .int .i64 t594, .bool t595]), (27, .agg #[.int .i64 t596, .int .i64 t597, .int .i64 t598]), (9, .pointer (some ⟨s_, 0, none⟩))]) (fun s_ w' => (w'.cell? ⟨gb592, 0, none⟩ = some (.int .i64 t586) ∧ w'.cell? ⟨gb592, 1, none⟩ = some (.int .i64 t587) ∧ w'.cell? ⟨gb592, 2, none⟩ = some (.int .u8 t588) ∧ w'.cell? ⟨gb592, 3, none⟩ = some (.slice Ao19 t589.length co19)) ∧ (Kd.R k33 33 w' w.heap.size (fun _ => True) (.slice Ao19 t589.length co19) t589) ∧ (w'.heap[gb592]? = some (.cells #[.int .i64 t586, .int .i64 t587, .int .u8 t588, .slice Ao19 t589.length co19] 26 (0, 0))) ∧ (w'.heap[s_]? = some (.cells #[.int .i64 0, .int .i64 0, .int .i64 0] 29 (0, 0))) ∧ (w.heap.size ≤ s_) ∧ (w.heap.size ≤ s_) ∧ (gb592 ≠ s_) ∧ (s_ ≠ gb592) ∧ (Below w.heap.size w w')) ?_ ?_
             rotate_left
             ·intro hJ1_3_9
              refine join_ (σ := Nat × Nat) 5 #[true, true, true, false, true, false, true, false, true, true, false, false] (fun s_ => [(25, .agg #[.int .i64 t593, .int .i64 t594, .bool t595]), (8, .pointer (some ⟨s_.1, 0, none⟩)), (9, .pointer (some ⟨s_.2, 0, none⟩))]) (fun s_ w' => (w'.cell? ⟨gb592, 0, none⟩ = some (.int .i64 t586) ∧ w'.cell? ⟨gb592, 1, none⟩ = some (.int .i64 t587) ∧ w'.cell? ⟨gb592, 2, none⟩ = some (.int .u8 t588) ∧ w'.cell? ⟨gb592, 3, none⟩ = some (.slice Ao19 t589.length co19)) ∧ (Kd.R k33 33 w' w.heap.size (fun _ => True) (.slice Ao19 t589.length co19) t589) ∧ (w'.heap[gb592]? = some (.cells #[.int .i64 t586, .int .i64 t587, .int .u8 t588, .slice Ao19 t589.length co19] 26 (0, 0))) ∧ (w'.heap[s_.1]? = some (.cells #[.int .i64 0, .int .i64 0, .int .i64 0] 29 (0, 0))) ∧ (w'.heap[s_.2]? = some (.cells #[.int .i64 0, .int .i64 0, .int .i64 0] 29 (0, 0))) ∧ (w.heap.size ≤ s_.1) ∧ (w.heap.size ≤ s_.1) ∧ (gb592 ≠ s_.1) ∧ (s_.1 ≠ gb592) ∧ (s_.2 ≠ s_.1) ∧ (s_.1 ≠ s_.2) ∧ (w.heap.size ≤ s_.2) ∧ (w.heap.size ≤ s_.2) ∧ (gb592 ≠ s_.2) ∧ (s_.2 ≠ gb592) ∧ (Below w.heap.size w w')) ?_ ?_
              rotate_left
              ·intro hJ1_8_9
               refine join_ (σ := Unit) 6 #[true, true, true, true, true, false, true, false, false, false, false, false] (fun s_ => [(25, .agg #[.int .i64 t593, .int .i64 t594, .bool t595]), (27, .agg #[.int .i64 t596, .int .i64 t597, .int .i64 t598])]) (fun s_ w' => (w'.cell? ⟨gb592, 0, none⟩ = some (.int .i64 t586) ∧ w'.cell? ⟨gb592, 1, none⟩ = some (.int .i64 t587) ∧ w'.cell? ⟨gb592, 2, none⟩ = some (.int .u8 t588) ∧ w'.cell? ⟨gb592, 3, none⟩ = some (.slice Ao19 t589.length co19)) ∧ (Kd.R k33 33 w' w.heap.size (fun _ => True) (.slice Ao19 t589.length co19) t589) ∧ (w'.heap[gb592]? = some (.cells #[.int .i64 t586, .int .i64 t587, .int .u8 t588, .slice Ao19 t589.length co19] 26 (0, 0))) ∧ (Below w.heap.size w w')) ?_ ?_
               rotate_left
               ·intro hJ1_3
                refine join_ (σ := Nat) 6 #[true, true, true, false, true, false, true, false, true, false, false, false] (fun s_ => [(25, .agg #[.int .i64 t593, .int .i64 t594, .bool t595]), (8, .pointer (some ⟨s_, 0, none⟩))]) (fun s_ w' => (w'.cell? ⟨gb592, 0, none⟩ = some (.int .i64 t586) ∧ w'.cell? ⟨gb592, 1, none⟩ = some (.int .i64 t587) ∧ w'.cell? ⟨gb592, 2, none⟩ = some (.int .u8 t588) ∧ w'.cell? ⟨gb592, 3, none⟩ = some (.slice Ao19 t589.length co19)) ∧ (Kd.R k33 33 w' w.heap.size (fun _ => True) (.slice Ao19 t589.length co19) t589) ∧ (w'.heap[gb592]? = some (.cells #[.int .i64 t586, .int .i64 t587, .int .u8 t588, .slice Ao19 t589.length co19] 26 (0, 0))) ∧ (w'.heap[s_]? = some (.cells #[.int .i64 0, .int .i64 0, .int .i64 0] 29 (0, 0))) ∧ (w.heap.size ≤ s_) ∧ (w.heap.size ≤ s_) ∧ (gb592 ≠ s_) ∧ (s_ ≠ gb592) ∧ (Below w.heap.size w w')) ?_ ?_
                rotate_left
                ·intro hJ1_8
                 refine join_ (σ := Nat) 6 #[true, true, true, false, true, false, true, false, false, true, false, false] (fun s_ => [(25, .agg #[.int .i64 t593, .int .i64 t594, .bool t595]), (9, .pointer (some ⟨s_, 0, none⟩))]) (fun s_ w' => (w'.cell? ⟨gb592, 0, none⟩ = some (.int .i64 t586) ∧ w'.cell? ⟨gb592, 1, none⟩ = some (.int .i64 t587) ∧ w'.cell? ⟨gb592, 2, none⟩ = some (.int .u8 t588) ∧ w'.cell? ⟨gb592, 3, none⟩ = some (.slice Ao19 t589.length co19)) ∧ (Kd.R k33 33 w' w.heap.size (fun _ => True) (.slice Ao19 t589.length co19) t589) ∧ (w'.heap[gb592]? = some (.cells #[.int .i64 t586, .int .i64 t587, .int .u8 t588, .slice Ao19 t589.length co19] 26 (0, 0))) ∧ (w'.heap[s_]? = some (.cells #[.int .i64 0, .int .i64 0, .int .i64 0] 29 (0, 0))) ∧ (w.heap.size ≤ s_) ∧ (w.heap.size ≤ s_) ∧ (gb592 ≠ s_) ∧ (s_ ≠ gb592) ∧ (Below w.heap.size w w')) ?_ ?_
                 rotate_left
                 ·intro hJ1_9
                  refine join_ (σ := Nat × Nat) 6 #[true, false, true, false, true, false, true, false, true, true, false, false] (fun s_ => [(8, .pointer (some ⟨s_.1, 0, none⟩)), (9, .pointer (some ⟨s_.2, 0, none⟩))]) (fun s_ w' => (w'.cell? ⟨gb592, 0, none⟩ = some (.int .i64 t586) ∧ w'.cell? ⟨gb592, 1, none⟩ = some (.int .i64 t587) ∧ w'.cell? ⟨gb592, 2, none⟩ = some (.int .u8 t588) ∧ w'.cell? ⟨gb592, 3, none⟩ = some (.slice Ao19 t589.length co19)) ∧ (Kd.R k33 33 w' w.heap.size (fun _ => True) (.slice Ao19 t589.length co19) t589) ∧ (w'.heap[gb592]? = some (.cells #[.int .i64 t586, .int .i64 t587, .int .u8 t588, .slice Ao19 t589.length co19] 26 (0, 0))) ∧ (w'.heap[s_.1]? = some (.cells #[.int .i64 0, .int .i64 0, .int .i64 0] 29 (0, 0))) ∧ (w'.heap[s_.2]? = some (.cells #[.int .i64 0, .int .i64 0, .int .i64 0] 29 (0, 0))) ∧ (w.heap.size ≤ s_.1) ∧ (w.heap.size ≤ s_.1) ∧ (gb592 ≠ s_.1) ∧ (s_.1 ≠ gb592) ∧ (s_.2 ≠ s_.1) ∧ (s_.1 ≠ s_.2) ∧ (w.heap.size ≤ s_.2) ∧ (w.heap.size ≤ s_.2) ∧ (gb592 ≠ s_.2) ∧ (s_.2 ≠ gb592) ∧ (Below w.heap.size w w')) ?_ ?_
                  rotate_left
                  ·intro hJ8_9
                   refine join_ (σ := Unit) 7 #[true, true, true, false, true, false, true, false, false, false, false, false] (fun s_ => [(25, .agg #[.int .i64 t593, .int .i64 t594, .bool t595])]) (fun s_ w' => (w'.cell? ⟨gb592, 0, none⟩ = some (.int .i64 t586) ∧ w'.cell? ⟨gb592, 1, none⟩ = some (.int .i64 t587) ∧ w'.cell? ⟨gb592, 2, none⟩ = some (.int .u8 t588) ∧ w'.cell? ⟨gb592, 3, none⟩ = some (.slice Ao19 t589.length co19)) ∧ (Kd.R k33 33 w' w.heap.size (fun _ => True) (.slice Ao19 t589.length co19) t589) ∧ (w'.heap[gb592]? = some (.cells #[.int .i64 t586, .int .i64 t587, .int .u8 t588, .slice Ao19 t589.length co19] 26 (0, 0))) ∧ (Below w.heap.size w w')) ?_ ?_
                   rotate_left
                   ·intro hJ1
                    refine join_ (σ := Nat) 7 #[true, false, true, false, true, false, true, false, true, false, false, false] (fun s_ => [(8, .pointer (some ⟨s_, 0, none⟩))]) (fun s_ w' => (w'.cell? ⟨gb592, 0, none⟩ = some (.int .i64 t586) ∧ w'.cell? ⟨gb592, 1, none⟩ = some (.int .i64 t587) ∧ w'.cell? ⟨gb592, 2, none⟩ = some (.int .u8 t588) ∧ w'.cell? ⟨gb592, 3, none⟩ = some (.slice Ao19 t589.length co19)) ∧ (Kd.R k33 33 w' w.heap.size (fun _ => True) (.slice Ao19 t589.length co19) t589) ∧ (w'.heap[gb592]? = some (.cells #[.int .i64 t586, .int .i64 t587, .int .u8 t588, .slice Ao19 t589.length co19] 26 (0, 0))) ∧ (w'.heap[s_]? = some (.cells #[.int .i64 0, .int .i64 0, .int .i64 0] 29 (0, 0))) ∧ (w.heap.size ≤ s_) ∧ (w.heap.size ≤ s_) ∧ (gb592 ≠ s_) ∧ (s_ ≠ gb592) ∧ (Below w.heap.size w w')) ?_ ?_
                    rotate_left
                    ·intro hJ8
                     refine join_ (σ := Nat) 7 #[true, false, true, false, true, false, true, false, false, true, false, false] (fun s_ => [(9, .pointer (some ⟨s_, 0, none⟩))]) (fun s_ w' => (w'.cell? ⟨gb592, 0, none⟩ = some (.int .i64 t586) ∧ w'.cell? ⟨gb592, 1, none⟩ = some (.int .i64 t587) ∧ w'.cell? ⟨gb592, 2, none⟩ = some (.int .u8 t588) ∧ w'.cell? ⟨gb592, 3, none⟩ = some (.slice Ao19 t589.length co19)) ∧ (Kd.R k33 33 w' w.heap.size (fun _ => True) (.slice Ao19 t589.length co19) t589) ∧ (w'.heap[gb592]? = some (.cells #[.int .i64 t586, .int .i64 t587, .int .u8 t588, .slice Ao19 t589.length co19] 26 (0, 0))) ∧ (w'.heap[s_]? = some (.cells #[.int .i64 0, .int .i64 0, .int .i64 0] 29 (0, 0))) ∧ (w.heap.size ≤ s_) ∧ (w.heap.size ≤ s_) ∧ (gb592 ≠ s_) ∧ (s_ ≠ gb592) ∧ (Below w.heap.size w w')) ?_ ?_
                     rotate_left
                     ·intro hJ9
                      refine three_ (i := 1) (j := 8) (k := 9) (Ni := some 25) (Nj := some 8) (Nk := some 9) #[true, true, true, false, true, false, true, false, false, false, false, false] #[true, false, true, false, true, false, true, false, true, false, false, false] #[true, false, true, false, true, false, true, false, false, true, false, false] rfl rfl rfl rfl rfl rfl (three_of HT_.out (by kernel_rfl)) (by decide) (by decide) (by decide) (fun K hK => ?_) (fun K hK => ?_) (fun K hK => ?_)
                      ·skip
                       refine gq_ Try.func22 (by kernel_rfl) rfl #[.int .u8 a2, .int .u8 0, .bool false] (by rfl) rfl rfl ?_
                       with_reducible refine (salvorlaw18_Opts.calls a2 0 false t593 t594 t595 _ A9.out).mono ?_
                       rintro e w22 ⟨rfl, hb⟩
                       refine ⟨_, rfl, ?_⟩
                       have n0_ := Aside0.mk (Kd.R_below (by (with_reducible repeat (first | apply Kd.R_alloc | apply Kd.R_drewN | apply Kd.R_drew)); exact HO591.out) hb)
                       have n1_ := bb_ BK592 hb
                       have n2_ := bs_ HB hb
                       clear HO591
                       clear BK592
                       clear HB
                       have HO591 := n0_
                       have BK592 := n1_
                       have HB := n2_
                       clear n0_ n1_ n2_
                       (try clear hb)
                       refine hK.out _ _ (k4_ BK592) (fun hHeld => ?_)
                       clear hK K
                       refine nm_ 25 ?_
                       exact norm_ (by first | (simp only [putAll, Act.put, List.setIfInBounds_toArray, List.set_cons_zero, List.set_cons_succ]; done) | (simp only [putAll, Act.put, List.setIfInBounds_toArray, List.set_cons_zero, List.set_cons_succ]; rfl)) (hJ1 () _ ⟨hHeld, (by (with_reducible repeat (first | apply Kd.R_alloc | apply Kd.R_drewN | apply Kd.R_drew)); exact HO591.out), (bq_ BK592), (bh_ HB)⟩)
                      ·skip
                       refine box_step ?hg (N := 8) ?hd (cs := #[.int .i64 0, .int .i64 0, .int .i64 0]) (t := 29) ?hr ?_; (case hd => rfl); (case hg => rfl); (case hr => first | (go_simp; done) | (go_simp; rfl))
                       intro gb605 hg w22 hbox hb
                       have n0_ := Aside0.mk (Kd.R_below (by (with_reducible repeat (first | apply Kd.R_alloc | apply Kd.R_drewN | apply Kd.R_drew)); exact HO591.out) hb)
                       have n1_ := bb_ BK592 hb
                       have n2_ := bs_ HB hb
                       have n3_ := Aside0.mk hbox
                       have n4_ := bg_ HB hg
                       have n5_ := bg_ HB hg
                       have n6_ := bn_ BK592 hg
                       have n7_ := bm_ BK592 hg
                       clear HO591
                       clear BK592
                       clear HB
                       have HO591 := n0_
                       have BK592 := n1_
                       have HB := n2_
                       have BK605 := n3_
                       have GW605 := n4_
                       have GE605 := n5_
                       have NB592_605 := n6_
                       have NB605_592 := n7_
                       clear n0_ n1_ n2_ n3_ n4_ n5_ n6_ n7_
                       clear hb hbox hg
                       refine hK.out _ _ (k4_ BK592) (fun hHeld => ?_)
                       clear hK K
                       refine nm_ 8 ?_
                       exact norm_ (by first | (simp only [putAll, Act.put, List.setIfInBounds_toArray, List.set_cons_zero, List.set_cons_succ]; done) | (simp only [putAll, Act.put, List.setIfInBounds_toArray, List.set_cons_zero, List.set_cons_succ]; rfl)) (hJ8 (gb605) _ ⟨hHeld, (by (with_reducible repeat (first | apply Kd.R_alloc | apply Kd.R_drewN | apply Kd.R_drew)); exact HO591.out), (bq_ BK592), (bq_ BK605), GW605.out, GE605.out, NB592_605.out, NB605_592.out, (bh_ HB)⟩)
                      ·skip
                       refine box_step ?hg (N := 9) ?hd (cs := #[.int .i64 0, .int .i64 0, .int .i64 0]) (t := 29) ?hr ?_; (case hd => rfl); (case hg => rfl); (case hr => first | (go_simp; done) | (go_simp; rfl))
                       intro gb606 hg w22 hbox hb
                       have n0_ := Aside0.mk (Kd.R_below (by (with_reducible repeat (first | apply Kd.R_alloc | apply Kd.R_drewN | apply Kd.R_drew)); exact HO591.out) hb)
                       have n1_ := bb_ BK592 hb
                       have n2_ := bs_ HB hb
                       have n3_ := Aside0.mk hbox
                       have n4_ := bg_ HB hg
                       have n5_ := bg_ HB hg
                       have n6_ := bn_ BK592 hg
                       have n7_ := bm_ BK592 hg
                       clear HO591
                       clear BK592
                       clear HB
                       have HO591 := n0_
                       have BK592 := n1_
                       have HB := n2_
                       have BK606 := n3_
                       have GW606 := n4_
                       have GE606 := n5_
                       have NB592_606 := n6_
                       have NB606_592 := n7_
                       clear n0_ n1_ n2_ n3_ n4_ n5_ n6_ n7_
                       clear hb hbox hg
                       refine hK.out _ _ (k4_ BK592) (fun hHeld => ?_)
                       clear hK K
                       refine nm_ 9 ?_
                       exact norm_ (by first | (simp only [putAll, Act.put, List.setIfInBounds_toArray, List.set_cons_zero, List.set_cons_succ]; done) | (simp only [putAll, Act.put, List.setIfInBounds_toArray, List.set_cons_zero, List.set_cons_succ]; rfl)) (hJ9 (gb606) _ ⟨hHeld, (by (with_reducible repeat (first | apply Kd.R_alloc | apply Kd.R_drewN | apply Kd.R_drew)); exact HO591.out), (bq_ BK592), (bq_ BK606), GW606.out, GE606.out, NB592_606.out, NB606_592.out, (bh_ HB)⟩)
                     ·skip
                      rintro gb606 w23 ⟨hS_, h0_, h1_, h2_, h3_, h4_, h5_, h6_, h7_⟩
                      have n0_ : Aside0 (Kd.R k33 33 w23 w.heap.size (fun _ => True) (.slice Ao19 t589.length co19) t589) := ⟨h0_⟩
                      have n1_ : Aside0 (w23.heap[gb592]? = some (.cells #[.int .i64 t586, .int .i64 t587, .int .u8 t588, .slice Ao19 t589.length co19] 26 (0, 0))) := ⟨h1_⟩
                      have n2_ : Aside0 (w23.heap[gb606]? = some (.cells #[.int .i64 0, .int .i64 0, .int .i64 0] 29 (0, 0))) := ⟨h2_⟩
                      have n3_ : Aside0 (w.heap.size ≤ gb606) := ⟨h3_⟩
                      have n4_ : Aside0 (w.heap.size ≤ gb606) := ⟨h4_⟩
                      have n5_ : Aside0 (gb592 ≠ gb606) := ⟨h5_⟩
                      have n6_ : Aside0 (gb606 ≠ gb592) := ⟨h6_⟩
                      have n7_ : Aside0 (Below w.heap.size w w23) := ⟨h7_⟩
                      clear HO591
                      clear BK592
                      clear HB
                      clear h0_ h1_ h2_ h3_ h4_ h5_ h6_ h7_
                      have HO591 := n0_
                      have BK592 := n1_
                      have BK606 := n2_
                      have GW606 := n3_
                      have GE606 := n4_
                      have NB592_606 := n5_
                      have NB606_592 := n6_
                      have HB := n7_
                      clear n0_ n1_ n2_ n3_ n4_ n5_ n6_ n7_
                      have hHeld : w23.cell? ⟨gb592, 0, none⟩ = some (.int .i64 t586) ∧ w23.cell? ⟨gb592, 1, none⟩ = some (.int .i64 t587) ∧ w23.cell? ⟨gb592, 2, none⟩ = some (.int .u8 t588) ∧ w23.cell? ⟨gb592, 3, none⟩ = some (.slice Ao19 t589.length co19) := hS_
                      refine norm_ (a' := ?_) ?_ ?_
                      rotate_left
                      ·simp only [putAll, Act.put, List.setIfInBounds_toArray, List.set_cons_zero, List.set_cons_succ]
                       rfl
                      refine two_ (i := 1) (j := 8) (Ni := some 25) (Nj := some 8) #[true, true, true, false, true, false, true, false, false, true, false, false] #[true, false, true, false, true, false, true, false, true, true, false, false] rfl rfl rfl rfl (two_of HT_.out (by kernel_rfl)) (by decide) (by decide) (fun K hK => ?_) (fun K hK => ?_)
                      ·skip
                       refine gq_ Try.func22 (by kernel_rfl) rfl #[.int .u8 a2, .int .u8 0, .bool false] (by rfl) rfl rfl ?_
                       with_reducible refine (salvorlaw18_Opts.calls a2 0 false t593 t594 t595 _ A9.out).mono ?_
                       rintro e w24 ⟨rfl, hb⟩
                       refine ⟨_, rfl, ?_⟩
                       have n0_ := Aside0.mk (Kd.R_below (by (with_reducible repeat (first | apply Kd.R_alloc | apply Kd.R_drewN | apply Kd.R_drew)); exact HO591.out) hb)
                       have n1_ := bb_ BK592 hb
                       have n2_ := bb_ BK606 hb
                       have n3_ := bs_ HB hb
                       clear HO591
                       clear BK592
                       clear BK606
                       clear HB
                       have HO591 := n0_
                       have BK592 := n1_
                       have BK606 := n2_
                       have HB := n3_
                       clear n0_ n1_ n2_ n3_
                       (try clear hb)
                       refine hK.out _ _ (k4_ BK592) (fun hHeld => ?_)
                       clear hK K
                       refine nm_ 25 ?_
                       exact norm_ (by first | (simp only [putAll, Act.put, List.setIfInBounds_toArray, List.set_cons_zero, List.set_cons_succ]; done) | (simp only [putAll, Act.put, List.setIfInBounds_toArray, List.set_cons_zero, List.set_cons_succ]; rfl)) (hJ1_9 (gb606) _ ⟨hHeld, (by (with_reducible repeat (first | apply Kd.R_alloc | apply Kd.R_drewN | apply Kd.R_drew)); exact HO591.out), (bq_ BK592), (bq_ BK606), GW606.out, GE606.out, NB592_606.out, NB606_592.out, (bh_ HB)⟩)
                      ·skip
                       refine box_step ?hg (N := 8) ?hd (cs := #[.int .i64 0, .int .i64 0, .int .i64 0]) (t := 29) ?hr ?_; (case hd => rfl); (case hg => rfl); (case hr => first | (go_simp; done) | (go_simp; rfl))
                       intro gb605 hg w24 hbox hb
                       have n0_ := Aside0.mk (Kd.R_below (by (with_reducible repeat (first | apply Kd.R_alloc | apply Kd.R_drewN | apply Kd.R_drew)); exact HO591.out) hb)
                       have n1_ := bb_ BK592 hb
                       have n2_ := bb_ BK606 hb
                       have n3_ := bs_ HB hb
                       have n4_ := Aside0.mk hbox
                       have n5_ := bg_ HB hg
                       have n6_ := bg_ HB hg
                       have n7_ := bn_ BK592 hg
                       have n8_ := bm_ BK592 hg
                       have n9_ := bn_ BK606 hg
                       have n10_ := bm_ BK606 hg
                       clear HO591
                       clear BK592
                       clear BK606
                       clear HB
                       have HO591 := n0_
                       have BK592 := n1_
                       have BK606 := n2_
                       have HB := n3_
                       have BK605 := n4_
                       have GW605 := n5_
                       have GE605 := n6_
                       have NB592_605 := n7_
                       have NB605_592 := n8_
                       have NB606_605 := n9_
                       have NB605_606 := n10_
                       clear n0_ n1_ n2_ n3_ n4_ n5_ n6_ n7_ n8_ n9_ n10_
                       clear hb hbox hg
                       refine hK.out _ _ (k4_ BK592) (fun hHeld => ?_)
                       clear hK K
                       refine nm_ 8 ?_
                       exact norm_ (by first | (simp only [putAll, Act.put, List.setIfInBounds_toArray, List.set_cons_zero, List.set_cons_succ]; done) | (simp only [putAll, Act.put, List.setIfInBounds_toArray, List.set_cons_zero, List.set_cons_succ]; rfl)) (hJ8_9 (gb605, gb606) _ ⟨hHeld, (by (with_reducible repeat (first | apply Kd.R_alloc | apply Kd.R_drewN | apply Kd.R_drew)); exact HO591.out), (bq_ BK592), (bq_ BK605), (bq_ BK606), GW605.out, GE605.out, NB592_605.out, NB605_592.out, NB606_605.out, NB605_606.out, GW606.out, GE606.out, NB592_606.out, NB606_592.out, (bh_ HB)⟩)
                    ·skip
                     rintro gb605 w23 ⟨hS_, h0_, h1_, h2_, h3_, h4_, h5_, h6_, h7_⟩
                     have n0_ : Aside0 (Kd.R k33 33 w23 w.heap.size (fun _ => True) (.slice Ao19 t589.length co19) t589) := ⟨h0_⟩
                     have n1_ : Aside0 (w23.heap[gb592]? = some (.cells #[.int .i64 t586, .int .i64 t587, .int .u8 t588, .slice Ao19 t589.length co19] 26 (0, 0))) := ⟨h1_⟩
                     have n2_ : Aside0 (w23.heap[gb605]? = some (.cells #[.int .i64 0, .int .i64 0, .int .i64 0] 29 (0, 0))) := ⟨h2_⟩
                     have n3_ : Aside0 (w.heap.size ≤ gb605) := ⟨h3_⟩
                     have n4_ : Aside0 (w.heap.size ≤ gb605) := ⟨h4_⟩
                     have n5_ : Aside0 (gb592 ≠ gb605) := ⟨h5_⟩
                     have n6_ : Aside0 (gb605 ≠ gb592) := ⟨h6_⟩
                     have n7_ : Aside0 (Below w.heap.size w w23) := ⟨h7_⟩
                     clear HO591
                     clear BK592
                     clear HB
                     clear h0_ h1_ h2_ h3_ h4_ h5_ h6_ h7_
                     have HO591 := n0_
                     have BK592 := n1_
                     have BK605 := n2_
                     have GW605 := n3_
                     have GE605 := n4_
                     have NB592_605 := n5_
                     have NB605_592 := n6_
                     have HB := n7_
                     clear n0_ n1_ n2_ n3_ n4_ n5_ n6_ n7_
                     have hHeld : w23.cell? ⟨gb592, 0, none⟩ = some (.int .i64 t586) ∧ w23.cell? ⟨gb592, 1, none⟩ = some (.int .i64 t587) ∧ w23.cell? ⟨gb592, 2, none⟩ = some (.int .u8 t588) ∧ w23.cell? ⟨gb592, 3, none⟩ = some (.slice Ao19 t589.length co19) := hS_
                     refine norm_ (a' := ?_) ?_ ?_
                     rotate_left
                     ·simp only [putAll, Act.put, List.setIfInBounds_toArray, List.set_cons_zero, List.set_cons_succ]
                      rfl
                     refine two_ (i := 1) (j := 9) (Ni := some 25) (Nj := some 9) #[true, true, true, false, true, false, true, false, true, false, false, false] #[true, false, true, false, true, false, true, false, true, true, false, false] rfl rfl rfl rfl (two_of HT_.out (by kernel_rfl)) (by decide) (by decide) (fun K hK => ?_) (fun K hK => ?_)
                     ·skip
                      refine gq_ Try.func22 (by kernel_rfl) rfl #[.int .u8 a2, .int .u8 0, .bool false] (by rfl) rfl rfl ?_
                      with_reducible refine (salvorlaw18_Opts.calls a2 0 false t593 t594 t595 _ A9.out).mono ?_
                      rintro e w24 ⟨rfl, hb⟩
                      refine ⟨_, rfl, ?_⟩
                      have n0_ := Aside0.mk (Kd.R_below (by (with_reducible repeat (first | apply Kd.R_alloc | apply Kd.R_drewN | apply Kd.R_drew)); exact HO591.out) hb)
                      have n1_ := bb_ BK592 hb
                      have n2_ := bb_ BK605 hb
                      have n3_ := bs_ HB hb
                      clear HO591
                      clear BK592
                      clear BK605
                      clear HB
                      have HO591 := n0_
                      have BK592 := n1_
                      have BK605 := n2_
                      have HB := n3_
                      clear n0_ n1_ n2_ n3_
                      (try clear hb)
                      refine hK.out _ _ (k4_ BK592) (fun hHeld => ?_)
                      clear hK K
                      refine nm_ 25 ?_
                      exact norm_ (by first | (simp only [putAll, Act.put, List.setIfInBounds_toArray, List.set_cons_zero, List.set_cons_succ]; done) | (simp only [putAll, Act.put, List.setIfInBounds_toArray, List.set_cons_zero, List.set_cons_succ]; rfl)) (hJ1_8 (gb605) _ ⟨hHeld, (by (with_reducible repeat (first | apply Kd.R_alloc | apply Kd.R_drewN | apply Kd.R_drew)); exact HO591.out), (bq_ BK592), (bq_ BK605), GW605.out, GE605.out, NB592_605.out, NB605_592.out, (bh_ HB)⟩)
                     ·skip
                      refine box_step ?hg (N := 9) ?hd (cs := #[.int .i64 0, .int .i64 0, .int .i64 0]) (t := 29) ?hr ?_; (case hd => rfl); (case hg => rfl); (case hr => first | (go_simp; done) | (go_simp; rfl))
                      intro gb606 hg w24 hbox hb
                      have n0_ := Aside0.mk (Kd.R_below (by (with_reducible repeat (first | apply Kd.R_alloc | apply Kd.R_drewN | apply Kd.R_drew)); exact HO591.out) hb)
                      have n1_ := bb_ BK592 hb
                      have n2_ := bb_ BK605 hb
                      have n3_ := bs_ HB hb
                      have n4_ := Aside0.mk hbox
                      have n5_ := bg_ HB hg
                      have n6_ := bg_ HB hg
                      have n7_ := bn_ BK592 hg
                      have n8_ := bm_ BK592 hg
                      have n9_ := bn_ BK605 hg
                      have n10_ := bm_ BK605 hg
                      clear HO591
                      clear BK592
                      clear BK605
                      clear HB
                      have HO591 := n0_
                      have BK592 := n1_
                      have BK605 := n2_
                      have HB := n3_
                      have BK606 := n4_
                      have GW606 := n5_
                      have GE606 := n6_
                      have NB592_606 := n7_
                      have NB606_592 := n8_
                      have NB605_606 := n9_
                      have NB606_605 := n10_
                      clear n0_ n1_ n2_ n3_ n4_ n5_ n6_ n7_ n8_ n9_ n10_
                      clear hb hbox hg
                      refine hK.out _ _ (k4_ BK592) (fun hHeld => ?_)
                      clear hK K
                      refine nm_ 9 ?_
                      exact norm_ (by first | (simp only [putAll, Act.put, List.setIfInBounds_toArray, List.set_cons_zero, List.set_cons_succ]; done) | (simp only [putAll, Act.put, List.setIfInBounds_toArray, List.set_cons_zero, List.set_cons_succ]; rfl)) (hJ8_9 (gb605, gb606) _ ⟨hHeld, (by (with_reducible repeat (first | apply Kd.R_alloc | apply Kd.R_drewN | apply Kd.R_drew)); exact HO591.out), (bq_ BK592), (bq_ BK605), (bq_ BK606), GW605.out, GE605.out, NB592_605.out, NB605_592.out, NB606_605.out, NB605_606.out, GW606.out, GE606.out, NB592_606.out, NB606_592.out, (bh_ HB)⟩)
                   ·skip
                    rintro _ w23 ⟨hS_, h0_, h1_, h2_⟩
                    have n0_ : Aside0 (Kd.R k33 33 w23 w.heap.size (fun _ => True) (.slice Ao19 t589.length co19) t589) := ⟨h0_⟩
                    have n1_ : Aside0 (w23.heap[gb592]? = some (.cells #[.int .i64 t586, .int .i64 t587, .int .u8 t588, .slice Ao19 t589.length co19] 26 (0, 0))) := ⟨h1_⟩
                    have n2_ : Aside0 (Below w.heap.size w w23) := ⟨h2_⟩
                    clear HO591
                    clear BK592
                    clear HB
                    clear h0_ h1_ h2_
                    have HO591 := n0_
                    have BK592 := n1_
                    have HB := n2_
                    clear n0_ n1_ n2_
                    have hHeld : w23.cell? ⟨gb592, 0, none⟩ = some (.int .i64 t586) ∧ w23.cell? ⟨gb592, 1, none⟩ = some (.int .i64 t587) ∧ w23.cell? ⟨gb592, 2, none⟩ = some (.int .u8 t588) ∧ w23.cell? ⟨gb592, 3, none⟩ = some (.slice Ao19 t589.length co19) := hS_
                    refine norm_ (a' := ?_) ?_ ?_
                    rotate_left
                    ·simp only [putAll, Act.put, List.setIfInBounds_toArray, List.set_cons_zero, List.set_cons_succ]
                     rfl
                    refine three_ (i := 3) (j := 8) (k := 9) (Ni := some 27) (Nj := some 8) (Nk := some 9) #[true, true, true, true, true, false, true, false, false, false, false, false] #[true, true, true, false, true, false, true, false, true, false, false, false] #[true, true, true, false, true, false, true, false, false, true, false, false] rfl rfl rfl rfl rfl rfl (three_of HT_.out (by kernel_rfl)) (by decide) (by decide) (by decide) (fun K hK => ?_) (fun K hK => ?_) (fun K hK => ?_)
                    ·skip
                     refine gq_ Try.func12 (by kernel_rfl) rfl #[.agg #[.int .i64 t593, .int .i64 t594, .bool t595], .agg #[.int .i64 t586, .int .i64 t587, .int .u8 t588, .slice Ao19 t589.length co19]] (by rfl) rfl rfl ?_
                     with_reducible refine (plan_Next.calls kj3 t593 t594 t595 t586 t587 t588 _ _ t589 t596 t597 t598 _ ?side1 ?side2 A10.out).mono ?_
                     (case side1 => repeat (first | exact (Kd.R_reads' HO591.out).2.2 | (with_reducible refine Kd.C_alloc ?_ _) | (with_reducible refine Kd.C_drewN ?_ _) | (with_reducible refine Kd.C_drew ?_)))
                     (case side2 => exact (Kd.R_reads' HO591.out).2.1)
                     rintro e w24 ⟨rfl, hb⟩
                     refine ⟨_, rfl, ?_⟩
                     have n0_ := Aside0.mk (Kd.R_below (by (with_reducible repeat (first | apply Kd.R_alloc | apply Kd.R_drewN | apply Kd.R_drew)); exact HO591.out) hb)
                     have n1_ := bb_ BK592 hb
                     have n2_ := bs_ HB hb
                     clear HO591
                     clear BK592
                     clear HB
                     have HO591 := n0_
                     have BK592 := n1_
                     have HB := n2_
                     clear n0_ n1_ n2_
                     (try clear hb)
                     refine hK.out _ _ (k4_ BK592) (fun hHeld => ?_)
                     clear hK K
                     refine nm_ 27 ?_
                     exact norm_ (by first | (simp only [putAll, Act.put, List.setIfInBounds_toArray, List.set_cons_zero, List.set_cons_succ]; done) | (simp only [putAll, Act.put, List.setIfInBounds_toArray, List.set_cons_zero, List.set_cons_succ]; rfl)) (hJ1_3 () _ ⟨hHeld, (by (with_reducible repeat (first | apply Kd.R_alloc | apply Kd.R_drewN | apply Kd.R_drew)); exact HO591.out), (bq_ BK592), (bh_ HB)⟩)
                    ·skip
                     refine box_step ?hg (N := 8) ?hd (cs := #[.int .i64 0, .int .i64 0, .int .i64 0]) (t := 29) ?hr ?_; (case hd => rfl); (case hg => rfl); (case hr => first | (go_simp; done) | (go_simp; rfl))
                     intro gb605 hg w24 hbox hb
                     have n0_ := Aside0.mk (Kd.R_below (by (with_reducible repeat (first | apply Kd.R_alloc | apply Kd.R_drewN | apply Kd.R_drew)); exact HO591.out) hb)
                     have n1_ := bb_ BK592 hb
                     have n2_ := bs_ HB hb
                     have n3_ := Aside0.mk hbox
                     have n4_ := bg_ HB hg
                     have n5_ := bg_ HB hg
                     have n6_ := bn_ BK592 hg
                     have n7_ := bm_ BK592 hg
                     clear HO591
                     clear BK592
                     clear HB
                     have HO591 := n0_
                     have BK592 := n1_
                     have HB := n2_
                     have BK605 := n3_
                     have GW605 := n4_
                     have GE605 := n5_
                     have NB592_605 := n6_
                     have NB605_592 := n7_
                     clear n0_ n1_ n2_ n3_ n4_ n5_ n6_ n7_
                     clear hb hbox hg
                     refine hK.out _ _ (k4_ BK592) (fun hHeld => ?_)
                     clear hK K
                     refine nm_ 8 ?_
                     exact norm_ (by first | (simp only [putAll, Act.put, List.setIfInBounds_toArray, List.set_cons_zero, List.set_cons_succ]; done) | (simp only [putAll, Act.put, List.setIfInBounds_toArray, List.set_cons_zero, List.set_cons_succ]; rfl)) (hJ1_8 (gb605) _ ⟨hHeld, (by (with_reducible repeat (first | apply Kd.R_alloc | apply Kd.R_drewN | apply Kd.R_drew)); exact HO591.out), (bq_ BK592), (bq_ BK605), GW605.out, GE605.out, NB592_605.out, NB605_592.out, (bh_ HB)⟩)
                    ·skip
                     refine box_step ?hg (N := 9) ?hd (cs := #[.int .i64 0, .int .i64 0, .int .i64 0]) (t := 29) ?hr ?_; (case hd => rfl); (case hg => rfl); (case hr => first | (go_simp; done) | (go_simp; rfl))
                     intro gb606 hg w24 hbox hb
                     have n0_ := Aside0.mk (Kd.R_below (by (with_reducible repeat (first | apply Kd.R_alloc | apply Kd.R_drewN | apply Kd.R_drew)); exact HO591.out) hb)
                     have n1_ := bb_ BK592 hb
                     have n2_ := bs_ HB hb
                     have n3_ := Aside0.mk hbox
                     have n4_ := bg_ HB hg
                     have n5_ := bg_ HB hg
                     have n6_ := bn_ BK592 hg
                     have n7_ := bm_ BK592 hg
                     clear HO591
                     clear BK592
                     clear HB
                     have HO591 := n0_
                     have BK592 := n1_
                     have HB := n2_
                     have BK606 := n3_
                     have GW606 := n4_
                     have GE606 := n5_
                     have NB592_606 := n6_
                     have NB606_592 := n7_
                     clear n0_ n1_ n2_ n3_ n4_ n5_ n6_ n7_
                     clear hb hbox hg
                     refine hK.out _ _ (k4_ BK592) (fun hHeld => ?_)
                     clear hK K
                     refine nm_ 9 ?_
                     exact norm_ (by first | (simp only [putAll, Act.put, List.setIfInBounds_toArray, List.set_cons_zero, List.set_cons_succ]; done) | (simp only [putAll, Act.put, List.setIfInBounds_toArray, List.set_cons_zero, List.set_cons_succ]; rfl)) (hJ1_9 (gb606) _ ⟨hHeld, (by (with_reducible repeat (first | apply Kd.R_alloc | apply Kd.R_drewN | apply Kd.R_drew)); exact HO591.out), (bq_ BK592), (bq_ BK606), GW606.out, GE606.out, NB592_606.out, NB606_592.out, (bh_ HB)⟩)
                  ·skip
                   rintro ⟨gb605, gb606⟩ w24 ⟨hS_, h0_, h1_, h2_, h3_, h4_, h5_, h6_, h7_, h8_, h9_, h10_, h11_, h12_, h13_, h14_⟩
                   have n0_ : Aside0 (Kd.R k33 33 w24 w.heap.size (fun _ => True) (.slice Ao19 t589.length co19) t589) := ⟨h0_⟩
                   have n1_ : Aside0 (w24.heap[gb592]? = some (.cells #[.int .i64 t586, .int .i64 t587, .int .u8 t588, .slice Ao19 t589.length co19] 26 (0, 0))) := ⟨h1_⟩
                   have n2_ : Aside0 (w24.heap[gb605]? = some (.cells #[.int .i64 0, .int .i64 0, .int .i64 0] 29 (0, 0))) := ⟨h2_⟩
                   have n3_ : Aside0 (w24.heap[gb606]? = some (.cells #[.int .i64 0, .int .i64 0, .int .i64 0] 29 (0, 0))) := ⟨h3_⟩
                   have n4_ : Aside0 (w.heap.size ≤ gb605) := ⟨h4_⟩
                   have n5_ : Aside0 (w.heap.size ≤ gb605) := ⟨h5_⟩
                   have n6_ : Aside0 (gb592 ≠ gb605) := ⟨h6_⟩
                   have n7_ : Aside0 (gb605 ≠ gb592) := ⟨h7_⟩
                   have n8_ : Aside0 (gb606 ≠ gb605) := ⟨h8_⟩
                   have n9_ : Aside0 (gb605 ≠ gb606) := ⟨h9_⟩
                   have n10_ : Aside0 (w.heap.size ≤ gb606) := ⟨h10_⟩
                   have n11_ : Aside0 (w.heap.size ≤ gb606) := ⟨h11_⟩
                   have n12_ : Aside0 (gb592 ≠ gb606) := ⟨h12_⟩
                   have n13_ : Aside0 (gb606 ≠ gb592) := ⟨h13_⟩
                   have n14_ : Aside0 (Below w.heap.size w w24) := ⟨h14_⟩
                   clear HO591
                   clear BK592
                   clear HB
                   clear h0_ h1_ h2_ h3_ h4_ h5_ h6_ h7_ h8_ h9_ h10_ h11_ h12_ h13_ h14_
                   have HO591 := n0_
                   have BK592 := n1_
                   have BK605 := n2_
                   have BK606 := n3_
                   have GW605 := n4_
                   have GE605 := n5_
                   have NB592_605 := n6_
                   have NB605_592 := n7_
                   have NB606_605 := n8_
                   have NB605_606 := n9_
                   have GW606 := n10_
                   have GE606 := n11_
                   have NB592_606 := n12_
                   have NB606_592 := n13_
                   have HB := n14_
                   clear n0_ n1_ n2_ n3_ n4_ n5_ n6_ n7_ n8_ n9_ n10_ n11_ n12_ n13_ n14_
                   have hHeld : w24.cell? ⟨gb592, 0, none⟩ = some (.int .i64 t586) ∧ w24.cell? ⟨gb592, 1, none⟩ = some (.int .i64 t587) ∧ w24.cell? ⟨gb592, 2, none⟩ = some (.int .u8 t588) ∧ w24.cell? ⟨gb592, 3, none⟩ = some (.slice Ao19 t589.length co19) := hS_
                   refine norm_ (a' := ?_) ?_ ?_
                   rotate_left
                   ·simp only [putAll, Act.put, List.setIfInBounds_toArray, List.set_cons_zero, List.set_cons_succ]
                    rfl
                   refine one_ (i := 1) (N := some 25) #[true, true, true, false, true, false, true, false, true, true, false, false] rfl rfl (one_of HT_.out (by kernel_rfl)) (by decide) (fun K hK => ?_)
                   refine gq_ Try.func22 (by kernel_rfl) rfl #[.int .u8 a2, .int .u8 0, .bool false] (by rfl) rfl rfl ?_
                   with_reducible refine (salvorlaw18_Opts.calls a2 0 false t593 t594 t595 _ A9.out).mono ?_
                   rintro e w25 ⟨rfl, hb⟩
                   refine ⟨_, rfl, ?_⟩
                   have n0_ := Aside0.mk (Kd.R_below (by (with_reducible repeat (first | apply Kd.R_alloc | apply Kd.R_drewN | apply Kd.R_drew)); exact HO591.out) hb)
                   have n1_ := bb_ BK592 hb
                   have n2_ := bb_ BK605 hb
                   have n3_ := bb_ BK606 hb
                   have n4_ := bs_ HB hb
                   clear HO591
                   clear BK592
                   clear BK605
                   clear BK606
                   clear HB
                   have HO591 := n0_
                   have BK592 := n1_
                   have BK605 := n2_
                   have BK606 := n3_
                   have HB := n4_
                   clear n0_ n1_ n2_ n3_ n4_
                   (try clear hb)
                   refine hK.out _ _ (k4_ BK592) (fun hHeld => ?_)
                   clear hK K
                   refine nm_ 25 ?_
                   exact norm_ (by first | (simp only [putAll, Act.put, List.setIfInBounds_toArray, List.set_cons_zero, List.set_cons_succ]; done) | (simp only [putAll, Act.put, List.setIfInBounds_toArray, List.set_cons_zero, List.set_cons_succ]; rfl)) (hJ1_8_9 (gb605, gb606) _ ⟨hHeld, (by (with_reducible repeat (first | apply Kd.R_alloc | apply Kd.R_drewN | apply Kd.R_drew)); exact HO591.out), (bq_ BK592), (bq_ BK605), (bq_ BK606), GW605.out, GE605.out, NB592_605.out, NB605_592.out, NB606_605.out, NB605_606.out, GW606.out, GE606.out, NB592_606.out, NB606_592.out, (bh_ HB)⟩)
                 ·skip
                  rintro gb606 w24 ⟨hS_, h0_, h1_, h2_, h3_, h4_, h5_, h6_, h7_⟩
                  have n0_ : Aside0 (Kd.R k33 33 w24 w.heap.size (fun _ => True) (.slice Ao19 t589.length co19) t589) := ⟨h0_⟩
                  have n1_ : Aside0 (w24.heap[gb592]? = some (.cells #[.int .i64 t586, .int .i64 t587, .int .u8 t588, .slice Ao19 t589.length co19] 26 (0, 0))) := ⟨h1_⟩
                  have n2_ : Aside0 (w24.heap[gb606]? = some (.cells #[.int .i64 0, .int .i64 0, .int .i64 0] 29 (0, 0))) := ⟨h2_⟩
                  have n3_ : Aside0 (w.heap.size ≤ gb606) := ⟨h3_⟩
                  have n4_ : Aside0 (w.heap.size ≤ gb606) := ⟨h4_⟩
                  have n5_ : Aside0 (gb592 ≠ gb606) := ⟨h5_⟩
                  have n6_ : Aside0 (gb606 ≠ gb592) := ⟨h6_⟩
                  have n7_ : Aside0 (Below w.heap.size w w24) := ⟨h7_⟩
                  clear HO591
                  clear BK592
                  clear HB
                  clear h0_ h1_ h2_ h3_ h4_ h5_ h6_ h7_
                  have HO591 := n0_
                  have BK592 := n1_
                  have BK606 := n2_
                  have GW606 := n3_
                  have GE606 := n4_
                  have NB592_606 := n5_
                  have NB606_592 := n6_
                  have HB := n7_
                  clear n0_ n1_ n2_ n3_ n4_ n5_ n6_ n7_
                  have hHeld : w24.cell? ⟨gb592, 0, none⟩ = some (.int .i64 t586) ∧ w24.cell? ⟨gb592, 1, none⟩ = some (.int .i64 t587) ∧ w24.cell? ⟨gb592, 2, none⟩ = some (.int .u8 t588) ∧ w24.cell? ⟨gb592, 3, none⟩ = some (.slice Ao19 t589.length co19) := hS_
                  refine norm_ (a' := ?_) ?_ ?_
                  rotate_left
                  ·simp only [putAll, Act.put, List.setIfInBounds_toArray, List.set_cons_zero, List.set_cons_succ]
                   rfl
                  refine two_ (i := 3) (j := 8) (Ni := some 27) (Nj := some 8) #[true, true, true, true, true, false, true, false, false, true, false, false] #[true, true, true, false, true, false, true, false, true, true, false, false] rfl rfl rfl rfl (two_of HT_.out (by kernel_rfl)) (by decide) (by decide) (fun K hK => ?_) (fun K hK => ?_)
                  ·skip
                   refine gq_ Try.func12 (by kernel_rfl) rfl #[.agg #[.int .i64 t593, .int .i64 t594, .bool t595], .agg #[.int .i64 t586, .int .i64 t587, .int .u8 t588, .slice Ao19 t589.length co19]] (by rfl) rfl rfl ?_
                   with_reducible refine (plan_Next.calls kj3 t593 t594 t595 t586 t587 t588 _ _ t589 t596 t597 t598 _ ?side1 ?side2 A10.out).mono ?_
                   (case side1 => repeat (first | exact (Kd.R_reads' HO591.out).2.2 | (with_reducible refine Kd.C_alloc ?_ _) | (with_reducible refine Kd.C_drewN ?_ _) | (with_reducible refine Kd.C_drew ?_)))
                   (case side2 => exact (Kd.R_reads' HO591.out).2.1)
                   rintro e w25 ⟨rfl, hb⟩
                   refine ⟨_, rfl, ?_⟩
                   have n0_ := Aside0.mk (Kd.R_below (by (with_reducible repeat (first | apply Kd.R_alloc | apply Kd.R_drewN | apply Kd.R_drew)); exact HO591.out) hb)
                   have n1_ := bb_ BK592 hb
                   have n2_ := bb_ BK606 hb
                   have n3_ := bs_ HB hb
                   clear HO591
                   clear BK592
                   clear BK606
                   clear HB
                   have HO591 := n0_
                   have BK592 := n1_
                   have BK606 := n2_
                   have HB := n3_
                   clear n0_ n1_ n2_ n3_
                   (try clear hb)
                   refine hK.out _ _ (k4_ BK592) (fun hHeld => ?_)
                   clear hK K
                   refine nm_ 27 ?_
                   exact norm_ (by first | (simp only [putAll, Act.put, List.setIfInBounds_toArray, List.set_cons_zero, List.set_cons_succ]; done) | (simp only [putAll, Act.put, List.setIfInBounds_toArray, List.set_cons_zero, List.set_cons_succ]; rfl)) (hJ1_3_9 (gb606) _ ⟨hHeld, (by (with_reducible repeat (first | apply Kd.R_alloc | apply Kd.R_drewN | apply Kd.R_drew)); exact HO591.out), (bq_ BK592), (bq_ BK606), GW606.out, GE606.out, NB592_606.out, NB606_592.out, (bh_ HB)⟩)
                  ·skip
                   refine box_step ?hg (N := 8) ?hd (cs := #[.int .i64 0, .int .i64 0, .int .i64 0]) (t := 29) ?hr ?_; (case hd => rfl); (case hg => rfl); (case hr => first | (go_simp; done) | (go_simp; rfl))
                   intro gb605 hg w25 hbox hb
                   have n0_ := Aside0.mk (Kd.R_below (by (with_reducible repeat (first | apply Kd.R_alloc | apply Kd.R_drewN | apply Kd.R_drew)); exact HO591.out) hb)
                   have n1_ := bb_ BK592 hb
                   have n2_ := bb_ BK606 hb
                   have n3_ := bs_ HB hb
                   have n4_ := Aside0.mk hbox
                   have n5_ := bg_ HB hg
                   have n6_ := bg_ HB hg
                   have n7_ := bn_ BK592 hg
                   have n8_ := bm_ BK592 hg
                   have n9_ := bn_ BK606 hg
                   have n10_ := bm_ BK606 hg
                   clear HO591
                   clear BK592
                   clear BK606
                   clear HB
                   have HO591 := n0_
                   have BK592 := n1_
                   have BK606 := n2_
                   have HB := n3_
                   have BK605 := n4_
                   have GW605 := n5_
                   have GE605 := n6_
                   have NB592_605 := n7_
                   have NB605_592 := n8_
                   have NB606_605 := n9_
                   have NB605_606 := n10_
                   clear n0_ n1_ n2_ n3_ n4_ n5_ n6_ n7_ n8_ n9_ n10_
                   clear hb hbox hg
                   refine hK.out _ _ (k4_ BK592) (fun hHeld => ?_)
                   clear hK K
                   refine nm_ 8 ?_
                   exact norm_ (by first | (simp only [putAll, Act.put, List.setIfInBounds_toArray, List.set_cons_zero, List.set_cons_succ]; done) | (simp only [putAll, Act.put, List.setIfInBounds_toArray, List.set_cons_zero, List.set_cons_succ]; rfl)) (hJ1_8_9 (gb605, gb606) _ ⟨hHeld, (by (with_reducible repeat (first | apply Kd.R_alloc | apply Kd.R_drewN | apply Kd.R_drew)); exact HO591.out), (bq_ BK592), (bq_ BK605), (bq_ BK606), GW605.out, GE605.out, NB592_605.out, NB605_592.out, NB606_605.out, NB605_606.out, GW606.out, GE606.out, NB592_606.out, NB606_592.out, (bh_ HB)⟩)
                ·skip
                 rintro gb605 w24 ⟨hS_, h0_, h1_, h2_, h3_, h4_, h5_, h6_, h7_⟩
                 have n0_ : Aside0 (Kd.R k33 33 w24 w.heap.size (fun _ => True) (.slice Ao19 t589.length co19) t589) := ⟨h0_⟩
                 have n1_ : Aside0 (w24.heap[gb592]? = some (.cells #[.int .i64 t586, .int .i64 t587, .int .u8 t588, .slice Ao19 t589.length co19] 26 (0, 0))) := ⟨h1_⟩
                 have n2_ : Aside0 (w24.heap[gb605]? = some (.cells #[.int .i64 0, .int .i64 0, .int .i64 0] 29 (0, 0))) := ⟨h2_⟩
                 have n3_ : Aside0 (w.heap.size ≤ gb605) := ⟨h3_⟩
                 have n4_ : Aside0 (w.heap.size ≤ gb605) := ⟨h4_⟩
                 have n5_ : Aside0 (gb592 ≠ gb605) := ⟨h5_⟩
                 have n6_ : Aside0 (gb605 ≠ gb592) := ⟨h6_⟩
                 have n7_ : Aside0 (Below w.heap.size w w24) := ⟨h7_⟩
                 clear HO591
                 clear BK592
                 clear HB
                 clear h0_ h1_ h2_ h3_ h4_ h5_ h6_ h7_
                 have HO591 := n0_
                 have BK592 := n1_
                 have BK605 := n2_
                 have GW605 := n3_
                 have GE605 := n4_
                 have NB592_605 := n5_
                 have NB605_592 := n6_
                 have HB := n7_
                 clear n0_ n1_ n2_ n3_ n4_ n5_ n6_ n7_
                 have hHeld : w24.cell? ⟨gb592, 0, none⟩ = some (.int .i64 t586) ∧ w24.cell? ⟨gb592, 1, none⟩ = some (.int .i64 t587) ∧ w24.cell? ⟨gb592, 2, none⟩ = some (.int .u8 t588) ∧ w24.cell? ⟨gb592, 3, none⟩ = some (.slice Ao19 t589.length co19) := hS_
                 refine norm_ (a' := ?_) ?_ ?_
                 rotate_left
                 ·simp only [putAll, Act.put, List.setIfInBounds_toArray, List.set_cons_zero, List.set_cons_succ]
                  rfl
                 refine two_ (i := 3) (j := 9) (Ni := some 27) (Nj := some 9) #[true, true, true, true, true, false, true, false, true, false, false, false] #[true, true, true, false, true, false, true, false, true, true, false, false] rfl rfl rfl rfl (two_of HT_.out (by kernel_rfl)) (by decide) (by decide) (fun K hK => ?_) (fun K hK => ?_)
                 ·skip
                  refine gq_ Try.func12 (by kernel_rfl) rfl #[.agg #[.int .i64 t593, .int .i64 t594, .bool t595], .agg #[.int .i64 t586, .int .i64 t587, .int .u8 t588, .slice Ao19 t589.length co19]] (by rfl) rfl rfl ?_
                  with_reducible refine (plan_Next.calls kj3 t593 t594 t595 t586 t587 t588 _ _ t589 t596 t597 t598 _ ?side1 ?side2 A10.out).mono ?_
                  (case side1 => repeat (first | exact (Kd.R_reads' HO591.out).2.2 | (with_reducible refine Kd.C_alloc ?_ _) | (with_reducible refine Kd.C_drewN ?_ _) | (with_reducible refine Kd.C_drew ?_)))
                  (case side2 => exact (Kd.R_reads' HO591.out).2.1)
                  rintro e w25 ⟨rfl, hb⟩
                  refine ⟨_, rfl, ?_⟩
                  have n0_ := Aside0.mk (Kd.R_below (by (with_reducible repeat (first | apply Kd.R_alloc | apply Kd.R_drewN | apply Kd.R_drew)); exact HO591.out) hb)
                  have n1_ := bb_ BK592 hb
                  have n2_ := bb_ BK605 hb
                  have n3_ := bs_ HB hb
                  clear HO591
                  clear BK592
                  clear BK605
                  clear HB
                  have HO591 := n0_
                  have BK592 := n1_
                  have BK605 := n2_
                  have HB := n3_
                  clear n0_ n1_ n2_ n3_
                  (try clear hb)
                  refine hK.out _ _ (k4_ BK592) (fun hHeld => ?_)
                  clear hK K
                  refine nm_ 27 ?_
                  exact norm_ (by first | (simp only [putAll, Act.put, List.setIfInBounds_toArray, List.set_cons_zero, List.set_cons_succ]; done) | (simp only [putAll, Act.put, List.setIfInBounds_toArray, List.set_cons_zero, List.set_cons_succ]; rfl)) (hJ1_3_8 (gb605) _ ⟨hHeld, (by (with_reducible repeat (first | apply Kd.R_alloc | apply Kd.R_drewN | apply Kd.R_drew)); exact HO591.out), (bq_ BK592), (bq_ BK605), GW605.out, GE605.out, NB592_605.out, NB605_592.out, (bh_ HB)⟩)
                 ·skip
                  refine box_step ?hg (N := 9) ?hd (cs := #[.int .i64 0, .int .i64 0, .int .i64 0]) (t := 29) ?hr ?_; (case hd => rfl); (case hg => rfl); (case hr => first | (go_simp; done) | (go_simp; rfl))
                  intro gb606 hg w25 hbox hb
                  have n0_ := Aside0.mk (Kd.R_below (by (with_reducible repeat (first | apply Kd.R_alloc | apply Kd.R_drewN | apply Kd.R_drew)); exact HO591.out) hb)
                  have n1_ := bb_ BK592 hb
                  have n2_ := bb_ BK605 hb
                  have n3_ := bs_ HB hb
                  have n4_ := Aside0.mk hbox
                  have n5_ := bg_ HB hg
                  have n6_ := bg_ HB hg
                  have n7_ := bn_ BK592 hg
                  have n8_ := bm_ BK592 hg
                  have n9_ := bn_ BK605 hg
                  have n10_ := bm_ BK605 hg
                  clear HO591
                  clear BK592
                  clear BK605
                  clear HB
                  have HO591 := n0_
                  have BK592 := n1_
                  have BK605 := n2_
                  have HB := n3_
                  have BK606 := n4_
                  have GW606 := n5_
                  have GE606 := n6_
                  have NB592_606 := n7_
                  have NB606_592 := n8_
                  have NB605_606 := n9_
                  have NB606_605 := n10_
                  clear n0_ n1_ n2_ n3_ n4_ n5_ n6_ n7_ n8_ n9_ n10_
                  clear hb hbox hg
                  refine hK.out _ _ (k4_ BK592) (fun hHeld => ?_)
                  clear hK K
                  refine nm_ 9 ?_
                  exact norm_ (by first | (simp only [putAll, Act.put, List.setIfInBounds_toArray, List.set_cons_zero, List.set_cons_succ]; done) | (simp only [putAll, Act.put, List.setIfInBounds_toArray, List.set_cons_zero, List.set_cons_succ]; rfl)) (hJ1_8_9 (gb605, gb606) _ ⟨hHeld, (by (with_reducible repeat (first | apply Kd.R_alloc | apply Kd.R_drewN | apply Kd.R_drew)); exact HO591.out), (bq_ BK592), (bq_ BK605), (bq_ BK606), GW605.out, GE605.out, NB592_605.out, NB605_592.out, NB606_605.out, NB605_606.out, GW606.out, GE606.out, NB592_606.out, NB606_592.out, (bh_ HB)⟩)
               ·skip
                rintro _ w24 ⟨hS_, h0_, h1_, h2_⟩
                have n0_ : Aside0 (Kd.R k33 33 w24 w.heap.size (fun _ => True) (.slice Ao19 t589.length co19) t589) := ⟨h0_⟩
                have n1_ : Aside0 (w24.heap[gb592]? = some (.cells #[.int .i64 t586, .int .i64 t587, .int .u8 t588, .slice Ao19 t589.length co19] 26 (0, 0))) := ⟨h1_⟩
                have n2_ : Aside0 (Below w.heap.size w w24) := ⟨h2_⟩
                clear HO591
                clear BK592
                clear HB
                clear h0_ h1_ h2_
                have HO591 := n0_
                have BK592 := n1_
                have HB := n2_
                clear n0_ n1_ n2_
                have hHeld : w24.cell? ⟨gb592, 0, none⟩ = some (.int .i64 t586) ∧ w24.cell? ⟨gb592, 1, none⟩ = some (.int .i64 t587) ∧ w24.cell? ⟨gb592, 2, none⟩ = some (.int .u8 t588) ∧ w24.cell? ⟨gb592, 3, none⟩ = some (.slice Ao19 t589.length co19) := hS_
                refine norm_ (a' := ?_) ?_ ?_
                rotate_left
                ·simp only [putAll, Act.put, List.setIfInBounds_toArray, List.set_cons_zero, List.set_cons_succ]
                 rfl
                refine three_ (i := 5) (j := 8) (k := 9) (Ni := some 29) (Nj := some 8) (Nk := some 9) #[true, true, true, true, true, true, true, false, false, false, false, false] #[true, true, true, true, true, false, true, false, true, false, false, false] #[true, true, true, true, true, false, true, false, false, true, false, false] rfl rfl rfl rfl rfl rfl (three_of HT_.out (by kernel_rfl)) (by decide) (by decide) (by decide) (fun K hK => ?_) (fun K hK => ?_) (fun K hK => ?_)
                ·skip
                 refine gq_ Try.func22 (by kernel_rfl) rfl #[.int .u8 a2, .int .u8 0, .bool true] (by rfl) rfl rfl ?_
                 with_reducible refine (salvorlaw18_Opts.calls a2 0 true t599 t600 t601 _ A11.out).mono ?_
                 rintro e w25 ⟨rfl, hb⟩
                 refine ⟨_, rfl, ?_⟩
                 have n0_ := Aside0.mk (Kd.R_below (by (with_reducible repeat (first | apply Kd.R_alloc | apply Kd.R_drewN | apply Kd.R_drew)); exact HO591.out) hb)
                 have n1_ := bb_ BK592 hb
                 have n2_ := bs_ HB hb
                 clear HO591
                 clear BK592
                 clear HB
                 have HO591 := n0_
                 have BK592 := n1_
                 have HB := n2_
                 clear n0_ n1_ n2_
                 (try clear hb)
                 refine hK.out _ _ (k4_ BK592) (fun hHeld => ?_)
                 clear hK K
                 refine nm_ 29 ?_
                 exact norm_ (by first | (simp only [putAll, Act.put, List.setIfInBounds_toArray, List.set_cons_zero, List.set_cons_succ]; done) | (simp only [putAll, Act.put, List.setIfInBounds_toArray, List.set_cons_zero, List.set_cons_succ]; rfl)) (hJ1_3_5 () _ ⟨hHeld, (by (with_reducible repeat (first | apply Kd.R_alloc | apply Kd.R_drewN | apply Kd.R_drew)); exact HO591.out), (bq_ BK592), (bh_ HB)⟩)
                ·skip
                 refine box_step ?hg (N := 8) ?hd (cs := #[.int .i64 0, .int .i64 0, .int .i64 0]) (t := 29) ?hr ?_; (case hd => rfl); (case hg => rfl); (case hr => first | (go_simp; done) | (go_simp; rfl))
                 intro gb605 hg w25 hbox hb
                 have n0_ := Aside0.mk (Kd.R_below (by (with_reducible repeat (first | apply Kd.R_alloc | apply Kd.R_drewN | apply Kd.R_drew)); exact HO591.out) hb)
                 have n1_ := bb_ BK592 hb
                 have n2_ := bs_ HB hb
                 have n3_ := Aside0.mk hbox
                 have n4_ := bg_ HB hg
                 have n5_ := bg_ HB hg
                 have n6_ := bn_ BK592 hg
                 have n7_ := bm_ BK592 hg
                 clear HO591
                 clear BK592
                 clear HB
                 have HO591 := n0_
                 have BK592 := n1_
                 have HB := n2_
                 have BK605 := n3_
                 have GW605 := n4_
                 have GE605 := n5_
                 have NB592_605 := n6_
                 have NB605_592 := n7_
                 clear n0_ n1_ n2_ n3_ n4_ n5_ n6_ n7_
                 clear hb hbox hg
                 refine hK.out _ _ (k4_ BK592) (fun hHeld => ?_)
                 clear hK K
                 refine nm_ 8 ?_
                 exact norm_ (by first | (simp only [putAll, Act.put, List.setIfInBounds_toArray, List.set_cons_zero, List.set_cons_succ]; done) | (simp only [putAll, Act.put, List.setIfInBounds_toArray, List.set_cons_zero, List.set_cons_succ]; rfl)) (hJ1_3_8 (gb605) _ ⟨hHeld, (by (with_reducible repeat (first | apply Kd.R_alloc | apply Kd.R_drewN | apply Kd.R_drew)); exact HO591.out), (bq_ BK592), (bq_ BK605), GW605.out, GE605.out, NB592_605.out, NB605_592.out, (bh_ HB)⟩)
                ·skip
                 refine box_step ?hg (N := 9) ?hd (cs := #[.int .i64 0, .int .i64 0, .int .i64 0]) (t := 29) ?hr ?_; (case hd => rfl); (case hg => rfl); (case hr => first | (go_simp; done) | (go_simp; rfl))
                 intro gb606 hg w25 hbox hb
                 have n0_ := Aside0.mk (Kd.R_below (by (with_reducible repeat (first | apply Kd.R_alloc | apply Kd.R_drewN | apply Kd.R_drew)); exact HO591.out) hb)
                 have n1_ := bb_ BK592 hb
                 have n2_ := bs_ HB hb
                 have n3_ := Aside0.mk hbox
                 have n4_ := bg_ HB hg
                 have n5_ := bg_ HB hg
                 have n6_ := bn_ BK592 hg
                 have n7_ := bm_ BK592 hg
                 clear HO591
                 clear BK592
                 clear HB
                 have HO591 := n0_
                 have BK592 := n1_
                 have HB := n2_
                 have BK606 := n3_
                 have GW606 := n4_
                 have GE606 := n5_
                 have NB592_606 := n6_
                 have NB606_592 := n7_
                 clear n0_ n1_ n2_ n3_ n4_ n5_ n6_ n7_
                 clear hb hbox hg
                 refine hK.out _ _ (k4_ BK592) (fun hHeld => ?_)
                 clear hK K
                 refine nm_ 9 ?_
                 exact norm_ (by first | (simp only [putAll, Act.put, List.setIfInBounds_toArray, List.set_cons_zero, List.set_cons_succ]; done) | (simp only [putAll, Act.put, List.setIfInBounds_toArray, List.set_cons_zero, List.set_cons_succ]; rfl)) (hJ1_3_9 (gb606) _ ⟨hHeld, (by (with_reducible repeat (first | apply Kd.R_alloc | apply Kd.R_drewN | apply Kd.R_drew)); exact HO591.out), (bq_ BK592), (bq_ BK606), GW606.out, GE606.out, NB592_606.out, NB606_592.out, (bh_ HB)⟩)
              ·skip
               rintro ⟨gb605, gb606⟩ w25 ⟨hS_, h0_, h1_, h2_, h3_, h4_, h5_, h6_, h7_, h8_, h9_, h10_, h11_, h12_, h13_, h14_⟩
               have n0_ : Aside0 (Kd.R k33 33 w25 w.heap.size (fun _ => True) (.slice Ao19 t589.length co19) t589) := ⟨h0_⟩
               have n1_ : Aside0 (w25.heap[gb592]? = some (.cells #[.int .i64 t586, .int .i64 t587, .int .u8 t588, .slice Ao19 t589.length co19] 26 (0, 0))) := ⟨h1_⟩
               have n2_ : Aside0 (w25.heap[gb605]? = some (.cells #[.int .i64 0, .int .i64 0, .int .i64 0] 29 (0, 0))) := ⟨h2_⟩
               have n3_ : Aside0 (w25.heap[gb606]? = some (.cells #[.int .i64 0, .int .i64 0, .int .i64 0] 29 (0, 0))) := ⟨h3_⟩
               have n4_ : Aside0 (w.heap.size ≤ gb605) := ⟨h4_⟩
               have n5_ : Aside0 (w.heap.size ≤ gb605) := ⟨h5_⟩
               have n6_ : Aside0 (gb592 ≠ gb605) := ⟨h6_⟩
               have n7_ : Aside0 (gb605 ≠ gb592) := ⟨h7_⟩
               have n8_ : Aside0 (gb606 ≠ gb605) := ⟨h8_⟩
               have n9_ : Aside0 (gb605 ≠ gb606) := ⟨h9_⟩
               have n10_ : Aside0 (w.heap.size ≤ gb606) := ⟨h10_⟩
               have n11_ : Aside0 (w.heap.size ≤ gb606) := ⟨h11_⟩
               have n12_ : Aside0 (gb592 ≠ gb606) := ⟨h12_⟩
               have n13_ : Aside0 (gb606 ≠ gb592) := ⟨h13_⟩
               have n14_ : Aside0 (Below w.heap.size w w25) := ⟨h14_⟩
               clear HO591
               clear BK592
               clear HB
               clear h0_ h1_ h2_ h3_ h4_ h5_ h6_ h7_ h8_ h9_ h10_ h11_ h12_ h13_ h14_
               have HO591 := n0_
               have BK592 := n1_
               have BK605 := n2_
               have BK606 := n3_
               have GW605 := n4_
               have GE605 := n5_
               have NB592_605 := n6_
               have NB605_592 := n7_
               have NB606_605 := n8_
               have NB605_606 := n9_
               have GW606 := n10_
               have GE606 := n11_
               have NB592_606 := n12_
               have NB606_592 := n13_
               have HB := n14_
               clear n0_ n1_ n2_ n3_ n4_ n5_ n6_ n7_ n8_ n9_ n10_ n11_ n12_ n13_ n14_
               have hHeld : w25.cell? ⟨gb592, 0, none⟩ = some (.int .i64 t586) ∧ w25.cell? ⟨gb592, 1, none⟩ = some (.int .i64 t587) ∧ w25.cell? ⟨gb592, 2, none⟩ = some (.int .u8 t588) ∧ w25.cell? ⟨gb592, 3, none⟩ = some (.slice Ao19 t589.length co19) := hS_
               refine norm_ (a' := ?_) ?_ ?_
               rotate_left
               ·simp only [putAll, Act.put, List.setIfInBounds_toArray, List.set_cons_zero, List.set_cons_succ]
                rfl
               refine one_ (i := 3) (N := some 27) #[true, true, true, true, true, false, true, false, true, true, false, false] rfl rfl (one_of HT_.out (by kernel_rfl)) (by decide) (fun K hK => ?_)
               refine gq_ Try.func12 (by kernel_rfl) rfl #[.agg #[.int .i64 t593, .int .i64 t594, .bool t595], .agg #[.int .i64 t586, .int .i64 t587, .int .u8 t588, .slice Ao19 t589.length co19]] (by rfl) rfl rfl ?_
               with_reducible refine (plan_Next.calls kj3 t593 t594 t595 t586 t587 t588 _ _ t589 t596 t597 t598 _ ?side1 ?side2 A10.out).mono ?_
               (case side1 => repeat (first | exact (Kd.R_reads' HO591.out).2.2 | (with_reducible refine Kd.C_alloc ?_ _) | (with_reducible refine Kd.C_drewN ?_ _) | (with_reducible refine Kd.C_drew ?_)))
               (case side2 => exact (Kd.R_reads' HO591.out).2.1)
               rintro e w26 ⟨rfl, hb⟩
               refine ⟨_, rfl, ?_⟩
               have n0_ := Aside0.mk (Kd.R_below (by (with_reducible repeat (first | apply Kd.R_alloc | apply Kd.R_drewN | apply Kd.R_drew)); exact HO591.out) hb)
               have n1_ := bb_ BK592 hb
               have n2_ := bb_ BK605 hb
               have n3_ := bb_ BK606 hb
               have n4_ := bs_ HB hb
               clear HO591
               clear BK592
               clear BK605
               clear BK606
               clear HB
               have HO591 := n0_
               have BK592 := n1_
               have BK605 := n2_
               have BK606 := n3_
               have HB := n4_
               clear n0_ n1_ n2_ n3_ n4_
               (try clear hb)
               refine hK.out _ _ (k4_ BK592) (fun hHeld => ?_)
               clear hK K
               refine nm_ 27 ?_
               exact norm_ (by first | (simp only [putAll, Act.put, List.setIfInBounds_toArray, List.set_cons_zero, List.set_cons_succ]; done) | (simp only [putAll, Act.put, List.setIfInBounds_toArray, List.set_cons_zero, List.set_cons_succ]; rfl)) (hJ1_3_8_9 (gb605, gb606) _ ⟨hHeld, (by (with_reducible repeat (first | apply Kd.R_alloc | apply Kd.R_drewN | apply Kd.R_drew)); exact HO591.out), (bq_ BK592), (bq_ BK605), (bq_ BK606), GW605.out, GE605.out, NB592_605.out, NB605_592.out, NB606_605.out, NB605_606.out, GW606.out, GE606.out, NB592_606.out, NB606_592.out, (bh_ HB)⟩)
             ·skip
              rintro gb606 w25 ⟨hS_, h0_, h1_, h2_, h3_, h4_, h5_, h6_, h7_⟩
              have n0_ : Aside0 (Kd.R k33 33 w25 w.heap.size (fun _ => True) (.slice Ao19 t589.length co19) t589) := ⟨h0_⟩
              have n1_ : Aside0 (w25.heap[gb592]? = some (.cells #[.int .i64 t586, .int .i64 t587, .int .u8 t588, .slice Ao19 t589.length co19] 26 (0, 0))) := ⟨h1_⟩
              have n2_ : Aside0 (w25.heap[gb606]? = some (.cells #[.int .i64 0, .int .i64 0, .int .i64 0] 29 (0, 0))) := ⟨h2_⟩
              have n3_ : Aside0 (w.heap.size ≤ gb606) := ⟨h3_⟩
              have n4_ : Aside0 (w.heap.size ≤ gb606) := ⟨h4_⟩
              have n5_ : Aside0 (gb592 ≠ gb606) := ⟨h5_⟩
              have n6_ : Aside0 (gb606 ≠ gb592) := ⟨h6_⟩
              have n7_ : Aside0 (Below w.heap.size w w25) := ⟨h7_⟩
              clear HO591
              clear BK592
              clear HB
              clear h0_ h1_ h2_ h3_ h4_ h5_ h6_ h7_
              have HO591 := n0_
              have BK592 := n1_
              have BK606 := n2_
              have GW606 := n3_
              have GE606 := n4_
              have NB592_606 := n5_
              have NB606_592 := n6_
              have HB := n7_
              clear n0_ n1_ n2_ n3_ n4_ n5_ n6_ n7_
              have hHeld : w25.cell? ⟨gb592, 0, none⟩ = some (.int .i64 t586) ∧ w25.cell? ⟨gb592, 1, none⟩ = some (.int .i64 t587) ∧ w25.cell? ⟨gb592, 2, none⟩ = some (.int .u8 t588) ∧ w25.cell? ⟨gb592, 3, none⟩ = some (.slice Ao19 t589.length co19) := hS_
              refine norm_ (a' := ?_) ?_ ?_
              rotate_left
              ·simp only [putAll, Act.put, List.setIfInBounds_toArray, List.set_cons_zero, List.set_cons_succ]
               rfl
              refine two_ (i := 5) (j := 8) (Ni := some 29) (Nj := some 8) #[true, true, true, true, true, true, true, false, false, true, false, false] #[true, true, true, true, true, false, true, false, true, true, false, false] rfl rfl rfl rfl (two_of HT_.out (by kernel_rfl)) (by decide) (by decide) (fun K hK => ?_) (fun K hK => ?_)
              ·skip
               refine gq_ Try.func22 (by kernel_rfl) rfl #[.int .u8 a2, .int .u8 0, .bool true] (by rfl) rfl rfl ?_
               with_reducible refine (salvorlaw18_Opts.calls a2 0 true t599 t600 t601 _ A11.out).mono ?_
               rintro e w26 ⟨rfl, hb⟩
               refine ⟨_, rfl, ?_⟩
               have n0_ := Aside0.mk (Kd.R_below (by (with_reducible repeat (first | apply Kd.R_alloc | apply Kd.R_drewN | apply Kd.R_drew)); exact HO591.out) hb)
               have n1_ := bb_ BK592 hb
               have n2_ := bb_ BK606 hb
               have n3_ := bs_ HB hb
               clear HO591
               clear BK592
               clear BK606
               clear HB
               have HO591 := n0_
               have BK592 := n1_
               have BK606 := n2_
               have HB := n3_
               clear n0_ n1_ n2_ n3_
               (try clear hb)
               refine hK.out _ _ (k4_ BK592) (fun hHeld => ?_)
               clear hK K
               refine nm_ 29 ?_
               exact norm_ (by first | (simp only [putAll, Act.put, List.setIfInBounds_toArray, List.set_cons_zero, List.set_cons_succ]; done) | (simp only [putAll, Act.put, List.setIfInBounds_toArray, List.set_cons_zero, List.set_cons_succ]; rfl)) (hJ1_3_5_9 (gb606) _ ⟨hHeld, (by (with_reducible repeat (first | apply Kd.R_alloc | apply Kd.R_drewN | apply Kd.R_drew)); exact HO591.out), (bq_ BK592), (bq_ BK606), GW606.out, GE606.out, NB592_606.out, NB606_592.out, (bh_ HB)⟩)
              ·skip
               refine box_step ?hg (N := 8) ?hd (cs := #[.int .i64 0, .int .i64 0, .int .i64 0]) (t := 29) ?hr ?_; (case hd => rfl); (case hg => rfl); (case hr => first | (go_simp; done) | (go_simp; rfl))
               intro gb605 hg w26 hbox hb
               have n0_ := Aside0.mk (Kd.R_below (by (with_reducible repeat (first | apply Kd.R_alloc | apply Kd.R_drewN | apply Kd.R_drew)); exact HO591.out) hb)
               have n1_ := bb_ BK592 hb
               have n2_ := bb_ BK606 hb
               have n3_ := bs_ HB hb
               have n4_ := Aside0.mk hbox
               have n5_ := bg_ HB hg
               have n6_ := bg_ HB hg
               have n7_ := bn_ BK592 hg
               have n8_ := bm_ BK592 hg
               have n9_ := bn_ BK606 hg
               have n10_ := bm_ BK606 hg
               clear HO591
               clear BK592
               clear BK606
               clear HB
               have HO591 := n0_
               have BK592 := n1_
               have BK606 := n2_
               have HB := n3_
               have BK605 := n4_
               have GW605 := n5_
               have GE605 := n6_
               have NB592_605 := n7_
               have NB605_592 := n8_
               have NB606_605 := n9_
               have NB605_606 := n10_
               clear n0_ n1_ n2_ n3_ n4_ n5_ n6_ n7_ n8_ n9_ n10_
               clear hb hbox hg
               refine hK.out _ _ (k4_ BK592) (fun hHeld => ?_)
               clear hK K
               refine nm_ 8 ?_
               exact norm_ (by first | (simp only [putAll, Act.put, List.setIfInBounds_toArray, List.set_cons_zero, List.set_cons_succ]; done) | (simp only [putAll, Act.put, List.setIfInBounds_toArray, List.set_cons_zero, List.set_cons_succ]; rfl)) (hJ1_3_8_9 (gb605, gb606) _ ⟨hHeld, (by (with_reducible repeat (first | apply Kd.R_alloc | apply Kd.R_drewN | apply Kd.R_drew)); exact HO591.out), (bq_ BK592), (bq_ BK605), (bq_ BK606), GW605.out, GE605.out, NB592_605.out, NB605_592.out, NB606_605.out, NB605_606.out, GW606.out, GE606.out, NB592_606.out, NB606_592.out, (bh_ HB)⟩)
            ·skip
             rintro gb605 w25 ⟨hS_, h0_, h1_, h2_, h3_, h4_, h5_, h6_, h7_⟩
             have n0_ : Aside0 (Kd.R k33 33 w25 w.heap.size (fun _ => True) (.slice Ao19 t589.length co19) t589) := ⟨h0_⟩
             have n1_ : Aside0 (w25.heap[gb592]? = some (.cells #[.int .i64 t586, .int .i64 t587, .int .u8 t588, .slice Ao19 t589.length co19] 26 (0, 0))) := ⟨h1_⟩
             have n2_ : Aside0 (w25.heap[gb605]? = some (.cells #[.int .i64 0, .int .i64 0, .int .i64 0] 29 (0, 0))) := ⟨h2_⟩
             have n3_ : Aside0 (w.heap.size ≤ gb605) := ⟨h3_⟩
             have n4_ : Aside0 (w.heap.size ≤ gb605) := ⟨h4_⟩
             have n5_ : Aside0 (gb592 ≠ gb605) := ⟨h5_⟩
             have n6_ : Aside0 (gb605 ≠ gb592) := ⟨h6_⟩
             have n7_ : Aside0 (Below w.heap.size w w25) := ⟨h7_⟩
             clear HO591
             clear BK592
             clear HB
             clear h0_ h1_ h2_ h3_ h4_ h5_ h6_ h7_
             have HO591 := n0_
             have BK592 := n1_
             have BK605 := n2_
             have GW605 := n3_
             have GE605 := n4_
             have NB592_605 := n5_
             have NB605_592 := n6_
             have HB := n7_
             clear n0_ n1_ n2_ n3_ n4_ n5_ n6_ n7_
             have hHeld : w25.cell? ⟨gb592, 0, none⟩ = some (.int .i64 t586) ∧ w25.cell? ⟨gb592, 1, none⟩ = some (.int .i64 t587) ∧ w25.cell? ⟨gb592, 2, none⟩ = some (.int .u8 t588) ∧ w25.cell? ⟨gb592, 3, none⟩ = some (.slice Ao19 t589.length co19) := hS_
             refine norm_ (a' := ?_) ?_ ?_
             rotate_left
             ·simp only [putAll, Act.put, List.setIfInBounds_toArray, List.set_cons_zero, List.set_cons_succ]
              rfl
             refine two_ (i := 5) (j := 9) (Ni := some 29) (Nj := some 9) #[true, true, true, true, true, true, true, false, true, false, false, false] #[true, true, true, true, true, false, true, false, true, true, false, false] rfl rfl rfl rfl (two_of HT_.out (by kernel_rfl)) (by decide) (by decide) (fun K hK => ?_) (fun K hK => ?_)
             ·skip
              refine gq_ Try.func22 (by kernel_rfl) rfl #[.int .u8 a2, .int .u8 0, .bool true] (by rfl) rfl rfl ?_
              with_reducible refine (salvorlaw18_Opts.calls a2 0 true t599 t600 t601 _ A11.out).mono ?_
              rintro e w26 ⟨rfl, hb⟩
              refine ⟨_, rfl, ?_⟩
              have n0_ := Aside0.mk (Kd.R_below (by (with_reducible repeat (first | apply Kd.R_alloc | apply Kd.R_drewN | apply Kd.R_drew)); exact HO591.out) hb)
              have n1_ := bb_ BK592 hb
              have n2_ := bb_ BK605 hb
              have n3_ := bs_ HB hb
              clear HO591
              clear BK592
              clear BK605
              clear HB
              have HO591 := n0_
              have BK592 := n1_
              have BK605 := n2_
              have HB := n3_
              clear n0_ n1_ n2_ n3_
              (try clear hb)
              refine hK.out _ _ (k4_ BK592) (fun hHeld => ?_)
              clear hK K
              refine nm_ 29 ?_
              exact norm_ (by first | (simp only [putAll, Act.put, List.setIfInBounds_toArray, List.set_cons_zero, List.set_cons_succ]; done) | (simp only [putAll, Act.put, List.setIfInBounds_toArray, List.set_cons_zero, List.set_cons_succ]; rfl)) (hJ1_3_5_8 (gb605) _ ⟨hHeld, (by (with_reducible repeat (first | apply Kd.R_alloc | apply Kd.R_drewN | apply Kd.R_drew)); exact HO591.out), (bq_ BK592), (bq_ BK605), GW605.out, GE605.out, NB592_605.out, NB605_592.out, (bh_ HB)⟩)
             ·skip
              refine box_step ?hg (N := 9) ?hd (cs := #[.int .i64 0, .int .i64 0, .int .i64 0]) (t := 29) ?hr ?_; (case hd => rfl); (case hg => rfl); (case hr => first | (go_simp; done) | (go_simp; rfl))
              intro gb606 hg w26 hbox hb
              have n0_ := Aside0.mk (Kd.R_below (by (with_reducible repeat (first | apply Kd.R_alloc | apply Kd.R_drewN | apply Kd.R_drew)); exact HO591.out) hb)
              have n1_ := bb_ BK592 hb
              have n2_ := bb_ BK605 hb
              have n3_ := bs_ HB hb
              have n4_ := Aside0.mk hbox
              have n5_ := bg_ HB hg
              have n6_ := bg_ HB hg
              have n7_ := bn_ BK592 hg
              have n8_ := bm_ BK592 hg
              have n9_ := bn_ BK605 hg
              have n10_ := bm_ BK605 hg
              clear HO591
              clear BK592
              clear BK605
              clear HB
              have HO591 := n0_
              have BK592 := n1_
              have BK605 := n2_
              have HB := n3_
              have BK606 := n4_
              have GW606 := n5_
              have GE606 := n6_
              have NB592_606 := n7_
              have NB606_592 := n8_
              have NB605_606 := n9_
              have NB606_605 := n10_
              clear n0_ n1_ n2_ n3_ n4_ n5_ n6_ n7_ n8_ n9_ n10_
              clear hb hbox hg
              refine hK.out _ _ (k4_ BK592) (fun hHeld => ?_)
              clear hK K
              refine nm_ 9 ?_
              exact norm_ (by first | (simp only [putAll, Act.put, List.setIfInBounds_toArray, List.set_cons_zero, List.set_cons_succ]; done) | (simp only [putAll, Act.put, List.setIfInBounds_toArray, List.set_cons_zero, List.set_cons_succ]; rfl)) (hJ1_3_8_9 (gb605, gb606) _ ⟨hHeld, (by (with_reducible repeat (first | apply Kd.R_alloc | apply Kd.R_drewN | apply Kd.R_drew)); exact HO591.out), (bq_ BK592), (bq_ BK605), (bq_ BK606), GW605.out, GE605.out, NB592_605.out, NB605_592.out, NB606_605.out, NB605_606.out, GW606.out, GE606.out, NB592_606.out, NB606_592.out, (bh_ HB)⟩)
           ·skip
            rintro _ w25 ⟨hS_, h0_, h1_, h2_⟩
            have n0_ : Aside0 (Kd.R k33 33 w25 w.heap.size (fun _ => True) (.slice Ao19 t589.length co19) t589) := ⟨h0_⟩
            have n1_ : Aside0 (w25.heap[gb592]? = some (.cells #[.int .i64 t586, .int .i64 t587, .int .u8 t588, .slice Ao19 t589.length co19] 26 (0, 0))) := ⟨h1_⟩
            have n2_ : Aside0 (Below w.heap.size w w25) := ⟨h2_⟩
            clear HO591
            clear BK592
            clear HB
            clear h0_ h1_ h2_
            have HO591 := n0_
            have BK592 := n1_
            have HB := n2_
            clear n0_ n1_ n2_
            have hHeld : w25.cell? ⟨gb592, 0, none⟩ = some (.int .i64 t586) ∧ w25.cell? ⟨gb592, 1, none⟩ = some (.int .i64 t587) ∧ w25.cell? ⟨gb592, 2, none⟩ = some (.int .u8 t588) ∧ w25.cell? ⟨gb592, 3, none⟩ = some (.slice Ao19 t589.length co19) := hS_
            refine norm_ (a' := ?_) ?_ ?_
            rotate_left
            ·simp only [putAll, Act.put, List.setIfInBounds_toArray, List.set_cons_zero, List.set_cons_succ]
             rfl
            refine three_ (i := 7) (j := 8) (k := 9) (Ni := some 31) (Nj := some 8) (Nk := some 9) #[true, true, true, true, true, true, true, true, false, false, false, false] #[true, true, true, true, true, true, true, false, true, false, false, false] #[true, true, true, true, true, true, true, false, false, true, false, false] rfl rfl rfl rfl rfl rfl (three_of HT_.out (by kernel_rfl)) (by decide) (by decide) (by decide) (fun K hK => ?_) (fun K hK => ?_) (fun K hK => ?_)
            ·skip
             refine gq_ Try.func12 (by kernel_rfl) rfl #[.agg #[.int .i64 t599, .int .i64 t600, .bool t601], .agg #[.int .i64 t586, .int .i64 t587, .int .u8 t588, .slice Ao19 t589.length co19]] (by rfl) rfl rfl ?_
             with_reducible refine (plan_Next.calls kj3 t599 t600 t601 t586 t587 t588 _ _ t589 t602 t603 t604 _ ?side1 ?side2 A12.out).mono ?_
             (case side1 => repeat (first | exact (Kd.R_reads' HO591.out).2.2 | (with_reducible refine Kd.C_alloc ?_ _) | (with_reducible refine Kd.C_drewN ?_ _) | (with_reducible refine Kd.C_drew ?_)))
             (case side2 => exact (Kd.R_reads' HO591.out).2.1)
             rintro e w26 ⟨rfl, hb⟩
             refine ⟨_, rfl, ?_⟩
             have n0_ := Aside0.mk (Kd.R_below (by (with_reducible repeat (first | apply Kd.R_alloc | apply Kd.R_drewN | apply Kd.R_drew)); exact HO591.out) hb)
             have n1_ := bb_ BK592 hb
             have n2_ := bs_ HB hb
             clear HO591
             clear BK592
             clear HB
             have HO591 := n0_
             have BK592 := n1_
             have HB := n2_
             clear n0_ n1_ n2_
             (try clear hb)
             refine hK.out _ _ (k4_ BK592) (fun hHeld => ?_)
             clear hK K
             refine nm_ 31 ?_
             exact norm_ (by first | (simp only [putAll, Act.put, List.setIfInBounds_toArray, List.set_cons_zero, List.set_cons_succ]; done) | (simp only [putAll, Act.put, List.setIfInBounds_toArray, List.set_cons_zero, List.set_cons_succ]; rfl)) (hJ1_3_5_7 () _ ⟨hHeld, (by (with_reducible repeat (first | apply Kd.R_alloc | apply Kd.R_drewN | apply Kd.R_drew)); exact HO591.out), (bq_ BK592), (bh_ HB)⟩)
            ·skip
             refine box_step ?hg (N := 8) ?hd (cs := #[.int .i64 0, .int .i64 0, .int .i64 0]) (t := 29) ?hr ?_; (case hd => rfl); (case hg => rfl); (case hr => first | (go_simp; done) | (go_simp; rfl))
             intro gb605 hg w26 hbox hb
             have n0_ := Aside0.mk (Kd.R_below (by (with_reducible repeat (first | apply Kd.R_alloc | apply Kd.R_drewN | apply Kd.R_drew)); exact HO591.out) hb)
             have n1_ := bb_ BK592 hb
             have n2_ := bs_ HB hb
             have n3_ := Aside0.mk hbox
             have n4_ := bg_ HB hg
             have n5_ := bg_ HB hg
             have n6_ := bn_ BK592 hg
             have n7_ := bm_ BK592 hg
             clear HO591
             clear BK592
             clear HB
             have HO591 := n0_
             have BK592 := n1_
             have HB := n2_
             have BK605 := n3_
             have GW605 := n4_
             have GE605 := n5_
             have NB592_605 := n6_
             have NB605_592 := n7_
             clear n0_ n1_ n2_ n3_ n4_ n5_ n6_ n7_
             clear hb hbox hg
             refine hK.out _ _ (k4_ BK592) (fun hHeld => ?_)
             clear hK K
             refine nm_ 8 ?_
             exact norm_ (by first | (simp only [putAll, Act.put, List.setIfInBounds_toArray, List.set_cons_zero, List.set_cons_succ]; done) | (simp only [putAll, Act.put, List.setIfInBounds_toArray, List.set_cons_zero, List.set_cons_succ]; rfl)) (hJ1_3_5_8 (gb605) _ ⟨hHeld, (by (with_reducible repeat (first | apply Kd.R_alloc | apply Kd.R_drewN | apply Kd.R_drew)); exact HO591.out), (bq_ BK592), (bq_ BK605), GW605.out, GE605.out, NB592_605.out, NB605_592.out, (bh_ HB)⟩)
            ·skip
             refine box_step ?hg (N := 9) ?hd (cs := #[.int .i64 0, .int .i64 0, .int .i64 0]) (t := 29) ?hr ?_; (case hd => rfl); (case hg => rfl); (case hr => first | (go_simp; done) | (go_simp; rfl))
             intro gb606 hg w26 hbox hb
             have n0_ := Aside0.mk (Kd.R_below (by (with_reducible repeat (first | apply Kd.R_alloc | apply Kd.R_drewN | apply Kd.R_drew)); exact HO591.out) hb)
             have n1_ := bb_ BK592 hb
             have n2_ := bs_ HB hb
             have n3_ := Aside0.mk hbox
             have n4_ := bg_ HB hg
             have n5_ := bg_ HB hg
             have n6_ := bn_ BK592 hg
             have n7_ := bm_ BK592 hg
             clear HO591
             clear BK592
             clear HB
             have HO591 := n0_
             have BK592 := n1_
             have HB := n2_
             have BK606 := n3_
             have GW606 := n4_
             have GE606 := n5_
             have NB592_606 := n6_
             have NB606_592 := n7_
             clear n0_ n1_ n2_ n3_ n4_ n5_ n6_ n7_
             clear hb hbox hg
             refine hK.out _ _ (k4_ BK592) (fun hHeld => ?_)
             clear hK K
             refine nm_ 9 ?_
             exact norm_ (by first | (simp only [putAll, Act.put, List.setIfInBounds_toArray, List.set_cons_zero, List.set_cons_succ]; done) | (simp only [putAll, Act.put, List.setIfInBounds_toArray, List.set_cons_zero, List.set_cons_succ]; rfl)) (hJ1_3_5_9 (gb606) _ ⟨hHeld, (by (with_reducible repeat (first | apply Kd.R_alloc | apply Kd.R_drewN | apply Kd.R_drew)); exact HO591.out), (bq_ BK592), (bq_ BK606), GW606.out, GE606.out, NB592_606.out, NB606_592.out, (bh_ HB)⟩)
          ·skip
           rintro ⟨gb605, gb606⟩ w26 ⟨hS_, h0_, h1_, h2_, h3_, h4_, h5_, h6_, h7_, h8_, h9_, h10_, h11_, h12_, h13_, h14_⟩
           have n0_ : Aside0 (Kd.R k33 33 w26 w.heap.size (fun _ => True) (.slice Ao19 t589.length co19) t589) := ⟨h0_⟩
           have n1_ : Aside0 (w26.heap[gb592]? = some (.cells #[.int .i64 t586, .int .i64 t587, .int .u8 t588, .slice Ao19 t589.length co19] 26 (0, 0))) := ⟨h1_⟩
           have n2_ : Aside0 (w26.heap[gb605]? = some (.cells #[.int .i64 0, .int .i64 0, .int .i64 0] 29 (0, 0))) := ⟨h2_⟩
           have n3_ : Aside0 (w26.heap[gb606]? = some (.cells #[.int .i64 0, .int .i64 0, .int .i64 0] 29 (0, 0))) := ⟨h3_⟩
           have n4_ : Aside0 (w.heap.size ≤ gb605) := ⟨h4_⟩
           have n5_ : Aside0 (w.heap.size ≤ gb605) := ⟨h5_⟩
           have n6_ : Aside0 (gb592 ≠ gb605) := ⟨h6_⟩
           have n7_ : Aside0 (gb605 ≠ gb592) := ⟨h7_⟩
           have n8_ : Aside0 (gb606 ≠ gb605) := ⟨h8_⟩
           have n9_ : Aside0 (gb605 ≠ gb606) := ⟨h9_⟩
           have n10_ : Aside0 (w.heap.size ≤ gb606) := ⟨h10_⟩
           have n11_ : Aside0 (w.heap.size ≤ gb606) := ⟨h11_⟩
           have n12_ : Aside0 (gb592 ≠ gb606) := ⟨h12_⟩
           have n13_ : Aside0 (gb606 ≠ gb592) := ⟨h13_⟩
           have n14_ : Aside0 (Below w.heap.size w w26) := ⟨h14_⟩
           clear HO591
           clear BK592
           clear HB
           clear h0_ h1_ h2_ h3_ h4_ h5_ h6_ h7_ h8_ h9_ h10_ h11_ h12_ h13_ h14_
           have HO591 := n0_
           have BK592 := n1_
           have BK605 := n2_
           have BK606 := n3_
           have GW605 := n4_
           have GE605 := n5_
           have NB592_605 := n6_
           have NB605_592 := n7_
           have NB606_605 := n8_
           have NB605_606 := n9_
           have GW606 := n10_
           have GE606 := n11_
           have NB592_606 := n12_
           have NB606_592 := n13_
           have HB := n14_
           clear n0_ n1_ n2_ n3_ n4_ n5_ n6_ n7_ n8_ n9_ n10_ n11_ n12_ n13_ n14_
           have hHeld : w26.cell? ⟨gb592, 0, none⟩ = some (.int .i64 t586) ∧ w26.cell? ⟨gb592, 1, none⟩ = some (.int .i64 t587) ∧ w26.cell? ⟨gb592, 2, none⟩ = some (.int .u8 t588) ∧ w26.cell? ⟨gb592, 3, none⟩ = some (.slice Ao19 t589.length co19) := hS_
           refine norm_ (a' := ?_) ?_ ?_
           rotate_left
           ·simp only [putAll, Act.put, List.setIfInBounds_toArray, List.set_cons_zero, List.set_cons_succ]
            rfl
           refine one_ (i := 5) (N := some 29) #[true, true, true, true, true, true, true, false, true, true, false, false] rfl rfl (one_of HT_.out (by kernel_rfl)) (by decide) (fun K hK => ?_)
           refine gq_ Try.func22 (by kernel_rfl) rfl #[.int .u8 a2, .int .u8 0, .bool true] (by rfl) rfl rfl ?_
           with_reducible refine (salvorlaw18_Opts.calls a2 0 true t599 t600 t601 _ A11.out).mono ?_
           rintro e w27 ⟨rfl, hb⟩
           refine ⟨_, rfl, ?_⟩
           have n0_ := Aside0.mk (Kd.R_below (by (with_reducible repeat (first | apply Kd.R_alloc | apply Kd.R_drewN | apply Kd.R_drew)); exact HO591.out) hb)
           have n1_ := bb_ BK592 hb
           have n2_ := bb_ BK605 hb
           have n3_ := bb_ BK606 hb
           have n4_ := bs_ HB hb
           clear HO591
           clear BK592
           clear BK605
           clear BK606
           clear HB
           have HO591 := n0_
           have BK592 := n1_
           have BK605 := n2_
           have BK606 := n3_
           have HB := n4_
           clear n0_ n1_ n2_ n3_ n4_
           (try clear hb)
           refine hK.out _ _ (k4_ BK592) (fun hHeld => ?_)
           clear hK K
           refine nm_ 29 ?_
           exact norm_ (by first | (simp only [putAll, Act.put, List.setIfInBounds_toArray, List.set_cons_zero, List.set_cons_succ]; done) | (simp only [putAll, Act.put, List.setIfInBounds_toArray, List.set_cons_zero, List.set_cons_succ]; rfl)) (hJ1_3_5_8_9 (gb605, gb606) _ ⟨hHeld, (by (with_reducible repeat (first | apply Kd.R_alloc | apply Kd.R_drewN | apply Kd.R_drew)); exact HO591.out), (bq_ BK592), (bq_ BK605), (bq_ BK606), GW605.out, GE605.out, NB592_605.out, NB605_592.out, NB606_605.out, NB605_606.out, GW606.out, GE606.out, NB592_606.out, NB606_592.out, (bh_ HB)⟩)
         ·skip
          rintro gb606 w26 ⟨hS_, h0_, h1_, h2_, h3_, h4_, h5_, h6_, h7_⟩
          have n0_ : Aside0 (Kd.R k33 33 w26 w.heap.size (fun _ => True) (.slice Ao19 t589.length co19) t589) := ⟨h0_⟩
          have n1_ : Aside0 (w26.heap[gb592]? = some (.cells #[.int .i64 t586, .int .i64 t587, .int .u8 t588, .slice Ao19 t589.length co19] 26 (0, 0))) := ⟨h1_⟩
          have n2_ : Aside0 (w26.heap[gb606]? = some (.cells #[.int .i64 0, .int .i64 0, .int .i64 0] 29 (0, 0))) := ⟨h2_⟩
          have n3_ : Aside0 (w.heap.size ≤ gb606) := ⟨h3_⟩
          have n4_ : Aside0 (w.heap.size ≤ gb606) := ⟨h4_⟩
          have n5_ : Aside0 (gb592 ≠ gb606) := ⟨h5_⟩
          have n6_ : Aside0 (gb606 ≠ gb592) := ⟨h6_⟩
          have n7_ : Aside0 (Below w.heap.size w w26) := ⟨h7_⟩
          clear HO591
          clear BK592
          clear HB
          clear h0_ h1_ h2_ h3_ h4_ h5_ h6_ h7_
          have HO591 := n0_
          have BK592 := n1_
          have BK606 := n2_
          have GW606 := n3_
          have GE606 := n4_
          have NB592_606 := n5_
          have NB606_592 := n6_
          have HB := n7_
          clear n0_ n1_ n2_ n3_ n4_ n5_ n6_ n7_
          have hHeld : w26.cell? ⟨gb592, 0, none⟩ = some (.int .i64 t586) ∧ w26.cell? ⟨gb592, 1, none⟩ = some (.int .i64 t587) ∧ w26.cell? ⟨gb592, 2, none⟩ = some (.int .u8 t588) ∧ w26.cell? ⟨gb592, 3, none⟩ = some (.slice Ao19 t589.length co19) := hS_
          refine norm_ (a' := ?_) ?_ ?_
          rotate_left
          ·simp only [putAll, Act.put, List.setIfInBounds_toArray, List.set_cons_zero, List.set_cons_succ]
           rfl
          refine two_ (i := 7) (j := 8) (Ni := some 31) (Nj := some 8) #[true, true, true, true, true, true, true, true, false, true, false, false] #[true, true, true, true, true, true, true, false, true, true, false, false] rfl rfl rfl rfl (two_of HT_.out (by kernel_rfl)) (by decide) (by decide) (fun K hK => ?_) (fun K hK => ?_)
          ·skip
           refine gq_ Try.func12 (by kernel_rfl) rfl #[.agg #[.int .i64 t599, .int .i64 t600, .bool t601], .agg #[.int .i64 t586, .int .i64 t587, .int .u8 t588, .slice Ao19 t589.length co19]] (by rfl) rfl rfl ?_
           with_reducible refine (plan_Next.calls kj3 t599 t600 t601 t586 t587 t588 _ _ t589 t602 t603 t604 _ ?side1 ?side2 A12.out).mono ?_
           (case side1 => repeat (first | exact (Kd.R_reads' HO591.out).2.2 | (with_reducible refine Kd.C_alloc ?_ _) | (with_reducible refine Kd.C_drewN ?_ _) | (with_reducible refine Kd.C_drew ?_)))
           (case side2 => exact (Kd.R_reads' HO591.out).2.1)
           rintro e w27 ⟨rfl, hb⟩
           refine ⟨_, rfl, ?_⟩
           have n0_ := Aside0.mk (Kd.R_below (by (with_reducible repeat (first | apply Kd.R_alloc | apply Kd.R_drewN | apply Kd.R_drew)); exact HO591.out) hb)
           have n1_ := bb_ BK592 hb
           have n2_ := bb_ BK606 hb
           have n3_ := bs_ HB hb
           clear HO591
           clear BK592
           clear BK606
           clear HB
           have HO591 := n0_
           have BK592 := n1_
           have BK606 := n2_
           have HB := n3_
           clear n0_ n1_ n2_ n3_
           (try clear hb)
           refine hK.out _ _ (k4_ BK592) (fun hHeld => ?_)
           clear hK K
           refine nm_ 31 ?_
           exact norm_ (by first | (simp only [putAll, Act.put, List.setIfInBounds_toArray, List.set_cons_zero, List.set_cons_succ]; done) | (simp only [putAll, Act.put, List.setIfInBounds_toArray, List.set_cons_zero, List.set_cons_succ]; rfl)) (hJ1_3_5_7_9 (gb606) _ ⟨hHeld, (by (with_reducible repeat (first | apply Kd.R_alloc | apply Kd.R_drewN | apply Kd.R_drew)); exact HO591.out), (bq_ BK592), (bq_ BK606), GW606.out, GE606.out, NB592_606.out, NB606_592.out, (bh_ HB)⟩)
          ·skip
           refine box_step ?hg (N := 8) ?hd (cs := #[.int .i64 0, .int .i64 0, .int .i64 0]) (t := 29) ?hr ?_; (case hd => rfl); (case hg => rfl); (case hr => first | (go_simp; done) | (go_simp; rfl))
           intro gb605 hg w27 hbox hb
           have n0_ := Aside0.mk (Kd.R_below (by (with_reducible repeat (first | apply Kd.R_alloc | apply Kd.R_drewN | apply Kd.R_drew)); exact HO591.out) hb)
           have n1_ := bb_ BK592 hb
           have n2_ := bb_ BK606 hb
           have n3_ := bs_ HB hb
           have n4_ := Aside0.mk hbox
           have n5_ := bg_ HB hg
           have n6_ := bg_ HB hg
           have n7_ := bn_ BK592 hg
           have n8_ := bm_ BK592 hg
           have n9_ := bn_ BK606 hg
           have n10_ := bm_ BK606 hg
           clear HO591
           clear BK592
           clear BK606
           clear HB
           have HO591 := n0_
           have BK592 := n1_
           have BK606 := n2_
           have HB := n3_
           have BK605 := n4_
           have GW605 := n5_
           have GE605 := n6_
           have NB592_605 := n7_
           have NB605_592 := n8_
           have NB606_605 := n9_
           have NB605_606 := n10_
           clear n0_ n1_ n2_ n3_ n4_ n5_ n6_ n7_ n8_ n9_ n10_
           clear hb hbox hg
           refine hK.out _ _ (k4_ BK592) (fun hHeld => ?_)
           clear hK K
           refine nm_ 8 ?_
           exact norm_ (by first | (simp only [putAll, Act.put, List.setIfInBounds_toArray, List.set_cons_zero, List.set_cons_succ]; done) | (simp only [putAll, Act.put, List.setIfInBounds_toArray, List.set_cons_zero, List.set_cons_succ]; rfl)) (hJ1_3_5_8_9 (gb605, gb606) _ ⟨hHeld, (by (with_reducible repeat (first | apply Kd.R_alloc | apply Kd.R_drewN | apply Kd.R_drew)); exact HO591.out), (bq_ BK592), (bq_ BK605), (bq_ BK606), GW605.out, GE605.out, NB592_605.out, NB605_592.out, NB606_605.out, NB605_606.out, GW606.out, GE606.out, NB592_606.out, NB606_592.out, (bh_ HB)⟩)
        ·skip
         rintro gb605 w26 ⟨hS_, h0_, h1_, h2_, h3_, h4_, h5_, h6_, h7_⟩
         have n0_ : Aside0 (Kd.R k33 33 w26 w.heap.size (fun _ => True) (.slice Ao19 t589.length co19) t589) := ⟨h0_⟩
         have n1_ : Aside0 (w26.heap[gb592]? = some (.cells #[.int .i64 t586, .int .i64 t587, .int .u8 t588, .slice Ao19 t589.length co19] 26 (0, 0))) := ⟨h1_⟩
         have n2_ : Aside0 (w26.heap[gb605]? = some (.cells #[.int .i64 0, .int .i64 0, .int .i64 0] 29 (0, 0))) := ⟨h2_⟩
         have n3_ : Aside0 (w.heap.size ≤ gb605) := ⟨h3_⟩
         have n4_ : Aside0 (w.heap.size ≤ gb605) := ⟨h4_⟩
         have n5_ : Aside0 (gb592 ≠ gb605) := ⟨h5_⟩
         have n6_ : Aside0 (gb605 ≠ gb592) := ⟨h6_⟩
         have n7_ : Aside0 (Below w.heap.size w w26) := ⟨h7_⟩
         clear HO591
         clear BK592
         clear HB
         clear h0_ h1_ h2_ h3_ h4_ h5_ h6_ h7_
         have HO591 := n0_
         have BK592 := n1_
         have BK605 := n2_
         have GW605 := n3_
         have GE605 := n4_
         have NB592_605 := n5_
         have NB605_592 := n6_
         have HB := n7_
         clear n0_ n1_ n2_ n3_ n4_ n5_ n6_ n7_
         have hHeld : w26.cell? ⟨gb592, 0, none⟩ = some (.int .i64 t586) ∧ w26.cell? ⟨gb592, 1, none⟩ = some (.int .i64 t587) ∧ w26.cell? ⟨gb592, 2, none⟩ = some (.int .u8 t588) ∧ w26.cell? ⟨gb592, 3, none⟩ = some (.slice Ao19 t589.length co19) := hS_
         refine norm_ (a' := ?_) ?_ ?_
         rotate_left
         ·simp only [putAll, Act.put, List.setIfInBounds_toArray, List.set_cons_zero, List.set_cons_succ]
          rfl
         refine two_ (i := 7) (j := 9) (Ni := some 31) (Nj := some 9) #[true, true, true, true, true, true, true, true, true, false, false, false] #[true, true, true, true, true, true, true, false, true, true, false, false] rfl rfl rfl rfl (two_of HT_.out (by kernel_rfl)) (by decide) (by decide) (fun K hK => ?_) (fun K hK => ?_)
         ·skip
          refine gq_ Try.func12 (by kernel_rfl) rfl #[.agg #[.int .i64 t599, .int .i64 t600, .bool t601], .agg #[.int .i64 t586, .int .i64 t587, .int .u8 t588, .slice Ao19 t589.length co19]] (by rfl) rfl rfl ?_
          with_reducible refine (plan_Next.calls kj3 t599 t600 t601 t586 t587 t588 _ _ t589 t602 t603 t604 _ ?side1 ?side2 A12.out).mono ?_
          (case side1 => repeat (first | exact (Kd.R_reads' HO591.out).2.2 | (with_reducible refine Kd.C_alloc ?_ _) | (with_reducible refine Kd.C_drewN ?_ _) | (with_reducible refine Kd.C_drew ?_)))
          (case side2 => exact (Kd.R_reads' HO591.out).2.1)
          rintro e w27 ⟨rfl, hb⟩
          refine ⟨_, rfl, ?_⟩
          have n0_ := Aside0.mk (Kd.R_below (by (with_reducible repeat (first | apply Kd.R_alloc | apply Kd.R_drewN | apply Kd.R_drew)); exact HO591.out) hb)
          have n1_ := bb_ BK592 hb
          have n2_ := bb_ BK605 hb
          have n3_ := bs_ HB hb
          clear HO591
          clear BK592
          clear BK605
          clear HB
          have HO591 := n0_
          have BK592 := n1_
          have BK605 := n2_
          have HB := n3_
          clear n0_ n1_ n2_ n3_
          (try clear hb)
          refine hK.out _ _ (k4_ BK592) (fun hHeld => ?_)
          clear hK K
          refine nm_ 31 ?_
          exact norm_ (by first | (simp only [putAll, Act.put, List.setIfInBounds_toArray, List.set_cons_zero, List.set_cons_succ]; done) | (simp only [putAll, Act.put, List.setIfInBounds_toArray, List.set_cons_zero, List.set_cons_succ]; rfl)) (hJ1_3_5_7_8 (gb605) _ ⟨hHeld, (by (with_reducible repeat (first | apply Kd.R_alloc | apply Kd.R_drewN | apply Kd.R_drew)); exact HO591.out), (bq_ BK592), (bq_ BK605), GW605.out, GE605.out, NB592_605.out, NB605_592.out, (bh_ HB)⟩)
         ·skip
          refine box_step ?hg (N := 9) ?hd (cs := #[.int .i64 0, .int .i64 0, .int .i64 0]) (t := 29) ?hr ?_; (case hd => rfl); (case hg => rfl); (case hr => first | (go_simp; done) | (go_simp; rfl))
          intro gb606 hg w27 hbox hb
          have n0_ := Aside0.mk (Kd.R_below (by (with_reducible repeat (first | apply Kd.R_alloc | apply Kd.R_drewN | apply Kd.R_drew)); exact HO591.out) hb)
          have n1_ := bb_ BK592 hb
          have n2_ := bb_ BK605 hb
          have n3_ := bs_ HB hb
          have n4_ := Aside0.mk hbox
          have n5_ := bg_ HB hg
          have n6_ := bg_ HB hg
          have n7_ := bn_ BK592 hg
          have n8_ := bm_ BK592 hg
          have n9_ := bn_ BK605 hg
          have n10_ := bm_ BK605 hg
          clear HO591
          clear BK592
          clear BK605
          clear HB
          have HO591 := n0_
          have BK592 := n1_
          have BK605 := n2_
          have HB := n3_
          have BK606 := n4_
          have GW606 := n5_
          have GE606 := n6_
          have NB592_606 := n7_
          have NB606_592 := n8_
          have NB605_606 := n9_
          have NB606_605 := n10_
          clear n0_ n1_ n2_ n3_ n4_ n5_ n6_ n7_ n8_ n9_ n10_
          clear hb hbox hg
          refine hK.out _ _ (k4_ BK592) (fun hHeld => ?_)
          clear hK K
          refine nm_ 9 ?_
          exact norm_ (by first | (simp only [putAll, Act.put, List.setIfInBounds_toArray, List.set_cons_zero, List.set_cons_succ]; done) | (simp only [putAll, Act.put, List.setIfInBounds_toArray, List.set_cons_zero, List.set_cons_succ]; rfl)) (hJ1_3_5_8_9 (gb605, gb606) _ ⟨hHeld, (by (with_reducible repeat (first | apply Kd.R_alloc | apply Kd.R_drewN | apply Kd.R_drew)); exact HO591.out), (bq_ BK592), (bq_ BK605), (bq_ BK606), GW605.out, GE605.out, NB592_605.out, NB605_592.out, NB606_605.out, NB605_606.out, GW606.out, GE606.out, NB592_606.out, NB606_592.out, (bh_ HB)⟩)
       ·skip
        rintro _ w26 ⟨hS_, h0_, h1_, h2_⟩
        have n0_ : Aside0 (Kd.R k33 33 w26 w.heap.size (fun _ => True) (.slice Ao19 t589.length co19) t589) := ⟨h0_⟩
        have n1_ : Aside0 (w26.heap[gb592]? = some (.cells #[.int .i64 t586, .int .i64 t587, .int .u8 t588, .slice Ao19 t589.length co19] 26 (0, 0))) := ⟨h1_⟩
        have n2_ : Aside0 (Below w.heap.size w w26) := ⟨h2_⟩
        clear HO591
        clear BK592
        clear HB
        clear h0_ h1_ h2_
        have HO591 := n0_
        have BK592 := n1_
        have HB := n2_
        clear n0_ n1_ n2_
        have hHeld : w26.cell? ⟨gb592, 0, none⟩ = some (.int .i64 t586) ∧ w26.cell? ⟨gb592, 1, none⟩ = some (.int .i64 t587) ∧ w26.cell? ⟨gb592, 2, none⟩ = some (.int .u8 t588) ∧ w26.cell? ⟨gb592, 3, none⟩ = some (.slice Ao19 t589.length co19) := hS_
        refine norm_ (a' := ?_) ?_ ?_
        rotate_left
        ·simp only [putAll, Act.put, List.setIfInBounds_toArray, List.set_cons_zero, List.set_cons_succ]
         rfl
        refine two_ (i := 8) (j := 9) (Ni := some 8) (Nj := some 9) #[true, true, true, true, true, true, true, true, true, false, false, false] #[true, true, true, true, true, true, true, true, false, true, false, false] rfl rfl rfl rfl (two_of HT_.out (by kernel_rfl)) (by decide) (by decide) (fun K hK => ?_) (fun K hK => ?_)
        ·skip
         refine box_step ?hg (N := 8) ?hd (cs := #[.int .i64 0, .int .i64 0, .int .i64 0]) (t := 29) ?hr ?_; (case hd => rfl); (case hg => rfl); (case hr => first | (go_simp; done) | (go_simp; rfl))
         intro gb605 hg w27 hbox hb
         have n0_ := Aside0.mk (Kd.R_below (by (with_reducible repeat (first | apply Kd.R_alloc | apply Kd.R_drewN | apply Kd.R_drew)); exact HO591.out) hb)
         have n1_ := bb_ BK592 hb
         have n2_ := bs_ HB hb
         have n3_ := Aside0.mk hbox
         have n4_ := bg_ HB hg
         have n5_ := bg_ HB hg
         have n6_ := bn_ BK592 hg
         have n7_ := bm_ BK592 hg
         clear HO591
         clear BK592
         clear HB
         have HO591 := n0_
         have BK592 := n1_
         have HB := n2_
         have BK605 := n3_
         have GW605 := n4_
         have GE605 := n5_
         have NB592_605 := n6_
         have NB605_592 := n7_
         clear n0_ n1_ n2_ n3_ n4_ n5_ n6_ n7_
         clear hb hbox hg
         refine hK.out _ _ (k4_ BK592) (fun hHeld => ?_)
         clear hK K
         refine nm_ 8 ?_
         exact norm_ (by first | (simp only [putAll, Act.put, List.setIfInBounds_toArray, List.set_cons_zero, List.set_cons_succ]; done) | (simp only [putAll, Act.put, List.setIfInBounds_toArray, List.set_cons_zero, List.set_cons_succ]; rfl)) (hJ1_3_5_7_8 (gb605) _ ⟨hHeld, (by (with_reducible repeat (first | apply Kd.R_alloc | apply Kd.R_drewN | apply Kd.R_drew)); exact HO591.out), (bq_ BK592), (bq_ BK605), GW605.out, GE605.out, NB592_605.out, NB605_592.out, (bh_ HB)⟩)
        ·skip
         refine box_step ?hg (N := 9) ?hd (cs := #[.int .i64 0, .int .i64 0, .int .i64 0]) (t := 29) ?hr ?_; (case hd => rfl); (case hg => rfl); (case hr => first | (go_simp; done) | (go_simp; rfl))
         intro gb606 hg w27 hbox hb
         have n0_ := Aside0.mk (Kd.R_below (by (with_reducible repeat (first | apply Kd.R_alloc | apply Kd.R_drewN | apply Kd.R_drew)); exact HO591.out) hb)
         have n1_ := bb_ BK592 hb
         have n2_ := bs_ HB hb
         have n3_ := Aside0.mk hbox
         have n4_ := bg_ HB hg
         have n5_ := bg_ HB hg
         have n6_ := bn_ BK592 hg
         have n7_ := bm_ BK592 hg
         clear HO591
         clear BK592
         clear HB
         have HO591 := n0_
         have BK592 := n1_
         have HB := n2_
         have BK606 := n3_
         have GW606 := n4_
         have GE606 := n5_
         have NB592_606 := n6_
         have NB606_592 := n7_
         clear n0_ n1_ n2_ n3_ n4_ n5_ n6_ n7_
         clear hb hbox hg
         refine hK.out _ _ (k4_ BK592) (fun hHeld => ?_)
         clear hK K
         refine nm_ 9 ?_
         exact norm_ (by first | (simp only [putAll, Act.put, List.setIfInBounds_toArray, List.set_cons_zero, List.set_cons_succ]; done) | (simp only [putAll, Act.put, List.setIfInBounds_toArray, List.set_cons_zero, List.set_cons_succ]; rfl)) (hJ1_3_5_7_9 (gb606) _ ⟨hHeld, (by (with_reducible repeat (first | apply Kd.R_alloc | apply Kd.R_drewN | apply Kd.R_drew)); exact HO591.out), (bq_ BK592), (bq_ BK606), GW606.out, GE606.out, NB592_606.out, NB606_592.out, (bh_ HB)⟩)
      ·skip
       rintro ⟨gb605, gb606⟩ w27 ⟨hS_, h0_, h1_, h2_, h3_, h4_, h5_, h6_, h7_, h8_, h9_, h10_, h11_, h12_, h13_, h14_⟩
       have n0_ : Aside0 (Kd.R k33 33 w27 w.heap.size (fun _ => True) (.slice Ao19 t589.length co19) t589) := ⟨h0_⟩
       have n1_ : Aside0 (w27.heap[gb592]? = some (.cells #[.int .i64 t586, .int .i64 t587, .int .u8 t588, .slice Ao19 t589.length co19] 26 (0, 0))) := ⟨h1_⟩
       have n2_ : Aside0 (w27.heap[gb605]? = some (.cells #[.int .i64 0, .int .i64 0, .int .i64 0] 29 (0, 0))) := ⟨h2_⟩
       have n3_ : Aside0 (w27.heap[gb606]? = some (.cells #[.int .i64 0, .int .i64 0, .int .i64 0] 29 (0, 0))) := ⟨h3_⟩
       have n4_ : Aside0 (w.heap.size ≤ gb605) := ⟨h4_⟩
       have n5_ : Aside0 (w.heap.size ≤ gb605) := ⟨h5_⟩
       have n6_ : Aside0 (gb592 ≠ gb605) := ⟨h6_⟩
       have n7_ : Aside0 (gb605 ≠ gb592) := ⟨h7_⟩
       have n8_ : Aside0 (gb606 ≠ gb605) := ⟨h8_⟩
       have n9_ : Aside0 (gb605 ≠ gb606) := ⟨h9_⟩
       have n10_ : Aside0 (w.heap.size ≤ gb606) := ⟨h10_⟩
       have n11_ : Aside0 (w.heap.size ≤ gb606) := ⟨h11_⟩
       have n12_ : Aside0 (gb592 ≠ gb606) := ⟨h12_⟩
       have n13_ : Aside0 (gb606 ≠ gb592) := ⟨h13_⟩
       have n14_ : Aside0 (Below w.heap.size w w27) := ⟨h14_⟩
       clear HO591
       clear BK592
       clear HB
       clear h0_ h1_ h2_ h3_ h4_ h5_ h6_ h7_ h8_ h9_ h10_ h11_ h12_ h13_ h14_
       have HO591 := n0_
       have BK592 := n1_
       have BK605 := n2_
       have BK606 := n3_
       have GW605 := n4_
       have GE605 := n5_
       have NB592_605 := n6_
       have NB605_592 := n7_
       have NB606_605 := n8_
       have NB605_606 := n9_
       have GW606 := n10_
       have GE606 := n11_
       have NB592_606 := n12_
       have NB606_592 := n13_
       have HB := n14_
       clear n0_ n1_ n2_ n3_ n4_ n5_ n6_ n7_ n8_ n9_ n10_ n11_ n12_ n13_ n14_
       have hHeld : w27.cell? ⟨gb592, 0, none⟩ = some (.int .i64 t586) ∧ w27.cell? ⟨gb592, 1, none⟩ = some (.int .i64 t587) ∧ w27.cell? ⟨gb592, 2, none⟩ = some (.int .u8 t588) ∧ w27.cell? ⟨gb592, 3, none⟩ = some (.slice Ao19 t589.length co19) := hS_
       refine norm_ (a' := ?_) ?_ ?_
       rotate_left
       ·simp only [putAll, Act.put, List.setIfInBounds_toArray, List.set_cons_zero, List.set_cons_succ]
        rfl
       refine one_ (i := 7) (N := some 31) #[true, true, true, true, true, true, true, true, true, true, false, false] rfl rfl (one_of HT_.out (by kernel_rfl)) (by decide) (fun K hK => ?_)
       refine gq_ Try.func12 (by kernel_rfl) rfl #[.agg #[.int .i64 t599, .int .i64 t600, .bool t601], .agg #[.int .i64 t586, .int .i64 t587, .int .u8 t588, .slice Ao19 t589.length co19]] (by rfl) rfl rfl ?_
       with_reducible refine (plan_Next.calls kj3 t599 t600 t601 t586 t587 t588 _ _ t589 t602 t603 t604 _ ?side1 ?side2 A12.out).mono ?_
       (case side1 => repeat (first | exact (Kd.R_reads' HO591.out).2.2 | (with_reducible refine Kd.C_alloc ?_ _) | (with_reducible refine Kd.C_drewN ?_ _) | (with_reducible refine Kd.C_drew ?_)))
       (case side2 => exact (Kd.R_reads' HO591.out).2.1)
       rintro e w28 ⟨rfl, hb⟩
       refine ⟨_, rfl, ?_⟩
       have n0_ := Aside0.mk (Kd.R_below (by (with_reducible repeat (first | apply Kd.R_alloc | apply Kd.R_drewN | apply Kd.R_drew)); exact HO591.out) hb)
       have n1_ := bb_ BK592 hb
       have n2_ := bb_ BK605 hb
       have n3_ := bb_ BK606 hb
       have n4_ := bs_ HB hb
       clear HO591
       clear BK592
       clear BK605
       clear BK606
       clear HB
       have HO591 := n0_
       have BK592 := n1_
       have BK605 := n2_
       have BK606 := n3_
       have HB := n4_
       clear n0_ n1_ n2_ n3_ n4_
       (try clear hb)
       refine hK.out _ _ (k4_ BK592) (fun hHeld => ?_)
       clear hK K
       refine nm_ 31 ?_
       exact norm_ (by first | (simp only [putAll, Act.put, List.setIfInBounds_toArray, List.set_cons_zero, List.set_cons_succ]; done) | (simp only [putAll, Act.put, List.setIfInBounds_toArray, List.set_cons_zero, List.set_cons_succ]; rfl)) (hJ1_3_5_7_8_9 (gb605, gb606) _ ⟨hHeld, (by (with_reducible repeat (first | apply Kd.R_alloc | apply Kd.R_drewN | apply Kd.R_drew)); exact HO591.out), (bq_ BK592), (bq_ BK605), (bq_ BK606), GW605.out, GE605.out, NB592_605.out, NB605_592.out, NB606_605.out, NB605_606.out, GW606.out, GE606.out, NB592_606.out, NB606_592.out, (bh_ HB)⟩)
     ·skip
      rintro gb606 w27 ⟨hS_, h0_, h1_, h2_, h3_, h4_, h5_, h6_, h7_⟩
      have n0_ : Aside0 (Kd.R k33 33 w27 w.heap.size (fun _ => True) (.slice Ao19 t589.length co19) t589) := ⟨h0_⟩
      have n1_ : Aside0 (w27.heap[gb592]? = some (.cells #[.int .i64 t586, .int .i64 t587, .int .u8 t588, .slice Ao19 t589.length co19] 26 (0, 0))) := ⟨h1_⟩
      have n2_ : Aside0 (w27.heap[gb606]? = some (.cells #[.int .i64 0, .int .i64 0, .int .i64 0] 29 (0, 0))) := ⟨h2_⟩
      have n3_ : Aside0 (w.heap.size ≤ gb606) := ⟨h3_⟩
      have n4_ : Aside0 (w.heap.size ≤ gb606) := ⟨h4_⟩
      have n5_ : Aside0 (gb592 ≠ gb606) := ⟨h5_⟩
      have n6_ : Aside0 (gb606 ≠ gb592) := ⟨h6_⟩
      have n7_ : Aside0 (Below w.heap.size w w27) := ⟨h7_⟩
      clear HO591
      clear BK592
      clear HB
      clear h0_ h1_ h2_ h3_ h4_ h5_ h6_ h7_
      have HO591 := n0_
      have BK592 := n1_
      have BK606 := n2_
      have GW606 := n3_
      have GE606 := n4_
      have NB592_606 := n5_
      have NB606_592 := n6_
      have HB := n7_
      clear n0_ n1_ n2_ n3_ n4_ n5_ n6_ n7_
      have hHeld : w27.cell? ⟨gb592, 0, none⟩ = some (.int .i64 t586) ∧ w27.cell? ⟨gb592, 1, none⟩ = some (.int .i64 t587) ∧ w27.cell? ⟨gb592, 2, none⟩ = some (.int .u8 t588) ∧ w27.cell? ⟨gb592, 3, none⟩ = some (.slice Ao19 t589.length co19) := hS_
      refine norm_ (a' := ?_) ?_ ?_
      rotate_left
      ·simp only [putAll, Act.put, List.setIfInBounds_toArray, List.set_cons_zero, List.set_cons_succ]
       rfl
      refine one_ (i := 8) (N := some 8) #[true, true, true, true, true, true, true, true, true, true, false, false] rfl rfl (one_of HT_.out (by kernel_rfl)) (by decide) (fun K hK => ?_)
      refine box_step ?hg (N := 8) ?hd (cs := #[.int .i64 0, .int .i64 0, .int .i64 0]) (t := 29) ?hr ?_; (case hd => rfl); (case hg => rfl); (case hr => first | (go_simp; done) | (go_simp; rfl))
      intro gb605 hg w28 hbox hb
      have n0_ := Aside0.mk (Kd.R_below (by (with_reducible repeat (first | apply Kd.R_alloc | apply Kd.R_drewN | apply Kd.R_drew)); exact HO591.out) hb)
      have n1_ := bb_ BK592 hb
      have n2_ := bb_ BK606 hb
      have n3_ := bs_ HB hb
      have n4_ := Aside0.mk hbox
      have n5_ := bg_ HB hg
      have n6_ := bg_ HB hg
      have n7_ := bn_ BK592 hg
      have n8_ := bm_ BK592 hg
      have n9_ := bn_ BK606 hg
      have n10_ := bm_ BK606 hg
      clear HO591
      clear BK592
      clear BK606
      clear HB
      have HO591 := n0_
      have BK592 := n1_
      have BK606 := n2_
      have HB := n3_
      have BK605 := n4_
      have GW605 := n5_
      have GE605 := n6_
      have NB592_605 := n7_
      have NB605_592 := n8_
      have NB606_605 := n9_
      have NB605_606 := n10_
      clear n0_ n1_ n2_ n3_ n4_ n5_ n6_ n7_ n8_ n9_ n10_
      clear hb hbox hg
      refine hK.out _ _ (k4_ BK592) (fun hHeld => ?_)
      clear hK K
      refine nm_ 8 ?_
      exact norm_ (by first | (simp only [putAll, Act.put, List.setIfInBounds_toArray, List.set_cons_zero, List.set_cons_succ]; done) | (simp only [putAll, Act.put, List.setIfInBounds_toArray, List.set_cons_zero, List.set_cons_succ]; rfl)) (hJ1_3_5_7_8_9 (gb605, gb606) _ ⟨hHeld, (by (with_reducible repeat (first | apply Kd.R_alloc | apply Kd.R_drewN | apply Kd.R_drew)); exact HO591.out), (bq_ BK592), (bq_ BK605), (bq_ BK606), GW605.out, GE605.out, NB592_605.out, NB605_592.out, NB606_605.out, NB605_606.out, GW606.out, GE606.out, NB592_606.out, NB606_592.out, (bh_ HB)⟩)
    ·skip
     rintro gb605 w27 ⟨hS_, h0_, h1_, h2_, h3_, h4_, h5_, h6_, h7_⟩
     have n0_ : Aside0 (Kd.R k33 33 w27 w.heap.size (fun _ => True) (.slice Ao19 t589.length co19) t589) := ⟨h0_⟩
     have n1_ : Aside0 (w27.heap[gb592]? = some (.cells #[.int .i64 t586, .int .i64 t587, .int .u8 t588, .slice Ao19 t589.length co19] 26 (0, 0))) := ⟨h1_⟩
     have n2_ : Aside0 (w27.heap[gb605]? = some (.cells #[.int .i64 0, .int .i64 0, .int .i64 0] 29 (0, 0))) := ⟨h2_⟩
     have n3_ : Aside0 (w.heap.size ≤ gb605) := ⟨h3_⟩
     have n4_ : Aside0 (w.heap.size ≤ gb605) := ⟨h4_⟩
     have n5_ : Aside0 (gb592 ≠ gb605) := ⟨h5_⟩
     have n6_ : Aside0 (gb605 ≠ gb592) := ⟨h6_⟩
     have n7_ : Aside0 (Below w.heap.size w w27) := ⟨h7_⟩
     clear HO591
     clear BK592
     clear HB
     clear h0_ h1_ h2_ h3_ h4_ h5_ h6_ h7_
     have HO591 := n0_
     have BK592 := n1_
     have BK605 := n2_
     have GW605 := n3_
     have GE605 := n4_
     have NB592_605 := n5_
     have NB605_592 := n6_
     have HB := n7_
     clear n0_ n1_ n2_ n3_ n4_ n5_ n6_ n7_
     have hHeld : w27.cell? ⟨gb592, 0, none⟩ = some (.int .i64 t586) ∧ w27.cell? ⟨gb592, 1, none⟩ = some (.int .i64 t587) ∧ w27.cell? ⟨gb592, 2, none⟩ = some (.int .u8 t588) ∧ w27.cell? ⟨gb592, 3, none⟩ = some (.slice Ao19 t589.length co19) := hS_
     refine norm_ (a' := ?_) ?_ ?_
     rotate_left
     ·simp only [putAll, Act.put, List.setIfInBounds_toArray, List.set_cons_zero, List.set_cons_succ]
      rfl
     refine one_ (i := 9) (N := some 9) #[true, true, true, true, true, true, true, true, true, true, false, false] rfl rfl (one_of HT_.out (by kernel_rfl)) (by decide) (fun K hK => ?_)
     refine box_step ?hg (N := 9) ?hd (cs := #[.int .i64 0, .int .i64 0, .int .i64 0]) (t := 29) ?hr ?_; (case hd => rfl); (case hg => rfl); (case hr => first | (go_simp; done) | (go_simp; rfl))
     intro gb606 hg w28 hbox hb
     have n0_ := Aside0.mk (Kd.R_below (by (with_reducible repeat (first | apply Kd.R_alloc | apply Kd.R_drewN | apply Kd.R_drew)); exact HO591.out) hb)
     have n1_ := bb_ BK592 hb
     have n2_ := bb_ BK605 hb
     have n3_ := bs_ HB hb
     have n4_ := Aside0.mk hbox
     have n5_ := bg_ HB hg
     have n6_ := bg_ HB hg
     have n7_ := bn_ BK592 hg
     have n8_ := bm_ BK592 hg
     have n9_ := bn_ BK605 hg
     have n10_ := bm_ BK605 hg
     clear HO591
     clear BK592
     clear BK605
     clear HB
     have HO591 := n0_
     have BK592 := n1_
     have BK605 := n2_
     have HB := n3_
     have BK606 := n4_
     have GW606 := n5_
     have GE606 := n6_
     have NB592_606 := n7_
     have NB606_592 := n8_
     have NB605_606 := n9_
     have NB606_605 := n10_
     clear n0_ n1_ n2_ n3_ n4_ n5_ n6_ n7_ n8_ n9_ n10_
     clear hb hbox hg
     refine hK.out _ _ (k4_ BK592) (fun hHeld => ?_)
     clear hK K
     refine nm_ 9 ?_
     exact norm_ (by first | (simp only [putAll, Act.put, List.setIfInBounds_toArray, List.set_cons_zero, List.set_cons_succ]; done) | (simp only [putAll, Act.put, List.setIfInBounds_toArray, List.set_cons_zero, List.set_cons_succ]; rfl)) (hJ1_3_5_7_8_9 (gb605, gb606) _ ⟨hHeld, (by (with_reducible repeat (first | apply Kd.R_alloc | apply Kd.R_drewN | apply Kd.R_drew)); exact HO591.out), (bq_ BK592), (bq_ BK605), (bq_ BK606), GW605.out, GE605.out, NB592_605.out, NB605_592.out, NB606_605.out, NB605_606.out, GW606.out, GE606.out, NB592_606.out, NB606_592.out, (bh_ HB)⟩)
   rintro ⟨gb605, gb606⟩ w28 ⟨hS_, h0_, h1_, h2_, h3_, h4_, h5_, h6_, h7_, h8_, h9_, h10_, h11_, h12_, h13_, h14_⟩
   have n0_ : Aside0 (Kd.R k33 33 w28 w.heap.size (fun _ => True) (.slice Ao19 t589.length co19) t589) := ⟨h0_⟩
   have n1_ : Aside0 (w28.heap[gb592]? = some (.cells #[.int .i64 t586, .int .i64 t587, .int .u8 t588, .slice Ao19 t589.length co19] 26 (0, 0))) := ⟨h1_⟩
   have n2_ : Aside0 (w28.heap[gb605]? = some (.cells #[.int .i64 0, .int .i64 0, .int .i64 0] 29 (0, 0))) := ⟨h2_⟩
   have n3_ : Aside0 (w28.heap[gb606]? = some (.cells #[.int .i64 0, .int .i64 0, .int .i64 0] 29 (0, 0))) := ⟨h3_⟩
   have n4_ : Aside0 (w.heap.size ≤ gb605) := ⟨h4_⟩
   have n5_ : Aside0 (w.heap.size ≤ gb605) := ⟨h5_⟩
   have n6_ : Aside0 (gb592 ≠ gb605) := ⟨h6_⟩
   have n7_ : Aside0 (gb605 ≠ gb592) := ⟨h7_⟩
   have n8_ : Aside0 (gb606 ≠ gb605) := ⟨h8_⟩
   have n9_ : Aside0 (gb605 ≠ gb606) := ⟨h9_⟩
   have n10_ : Aside0 (w.heap.size ≤ gb606) := ⟨h10_⟩
   have n11_ : Aside0 (w.heap.size ≤ gb606) := ⟨h11_⟩
   have n12_ : Aside0 (gb592 ≠ gb606) := ⟨h12_⟩
   have n13_ : Aside0 (gb606 ≠ gb592) := ⟨h13_⟩
   have n14_ : Aside0 (Below w.heap.size w w28) := ⟨h14_⟩
   clear HO591
   clear BK592
   clear HB
   clear h0_ h1_ h2_ h3_ h4_ h5_ h6_ h7_ h8_ h9_ h10_ h11_ h12_ h13_ h14_
   have HO591 := n0_
   have BK592 := n1_
   have BK605 := n2_
   have BK606 := n3_
   have GW605 := n4_
   have GE605 := n5_
   have NB592_605 := n6_
   have NB605_592 := n7_
   have NB606_605 := n8_
   have NB605_606 := n9_
   have GW606 := n10_
   have GE606 := n11_
   have NB592_606 := n12_
   have NB606_592 := n13_
   have HB := n14_
   clear n0_ n1_ n2_ n3_ n4_ n5_ n6_ n7_ n8_ n9_ n10_ n11_ n12_ n13_ n14_
   have hHeld : w28.cell? ⟨gb592, 0, none⟩ = some (.int .i64 t586) ∧ w28.cell? ⟨gb592, 1, none⟩ = some (.int .i64 t587) ∧ w28.cell? ⟨gb592, 2, none⟩ = some (.int .u8 t588) ∧ w28.cell? ⟨gb592, 3, none⟩ = some (.slice Ao19 t589.length co19) := hS_
   refine norm_ (a' := ?_) ?_ ?_
   rotate_left
   ·simp only [putAll, Act.put, List.setIfInBounds_toArray, List.set_cons_zero, List.set_cons_succ]
    rfl
   refine one_ (i := 10) (N := none) #[true, true, true, true, true, true, true, true, true, true, true, false] rfl rfl (one_of HT_.out (by kernel_rfl)) (by decide) (fun K hK => ?_)
   have hs29 : w28.cell? ⟨gb605, 0, none⟩ = some (.int .i64 0) := (blk_cell BK605.out 0).trans rfl
   have hfs29 := blk_frozen BK605.out 0
   have hns29_0 := NB592_605.out
   have hns29_2 := NB606_605.out
   have hms29_0 := NB605_592.out
   have hms29_2 := NB605_606.out
   have hs30 : w28.cell? ⟨gb605, 1, none⟩ = some (.int .i64 0) := (blk_cell BK605.out 1).trans rfl
   have hfs30 := blk_frozen BK605.out 1
   have hns30_0 := NB592_605.out
   have hns30_2 := NB606_605.out
   have hms30_0 := NB605_592.out
   have hms30_2 := NB605_606.out
   have hs31 : w28.cell? ⟨gb605, 2, none⟩ = some (.int .i64 0) := (blk_cell BK605.out 2).trans rfl
   have hfs31 := blk_frozen BK605.out 2
   have hns31_0 := NB592_605.out
   have hns31_2 := NB606_605.out
   have hms31_0 := NB605_592.out
   have hms31_2 := NB605_606.out
   refine skip_ (w1 := ?_) (by rfl) rfl ?_ ?_
   rotate_left
   ·go_simp
    rfl
   refine hK.out _ _ ⟨(cf_ NB592_605 ((cf_ NB592_605 ((cf_ NB592_605 (hHeld.1)))))), (cf_ NB592_605 ((cf_ NB592_605 ((cf_ NB592_605 (hHeld.2.1)))))), (cf_ NB592_605 ((cf_ NB592_605 ((cf_ NB592_605 (hHeld.2.2.1)))))), (cf_ NB592_605 ((cf_ NB592_605 ((cf_ NB592_605 (hHeld.2.2.2))))))⟩ (fun hHeld => ?_)
   clear hK K
   refine one_ (i := 11) (N := none) #[true, true, true, true, true, true, true, true, true, true, true, true] rfl rfl (one_of HT_.out (by kernel_rfl)) (by decide) (fun K hK => ?_)
   have hs32 : w28.cell? ⟨gb606, 0, none⟩ = some (.int .i64 0) := (blk_cell BK606.out 0).trans rfl
   have hfs32 := blk_frozen BK606.out 0
   have hns32_0 := NB592_606.out
   have hns32_1 := NB605_606.out
   have hms32_0 := NB606_592.out
   have hms32_1 := NB606_605.out
   have hs33 : w28.cell? ⟨gb606, 1, none⟩ = some (.int .i64 0) := (blk_cell BK606.out 1).trans rfl
   have hfs33 := blk_frozen BK606.out 1
   have hns33_0 := NB592_606.out
   have hns33_1 := NB605_606.out
   have hms33_0 := NB606_592.out
   have hms33_1 := NB606_605.out
   have hs34 : w28.cell? ⟨gb606, 2, none⟩ = some (.int .i64 0) := (blk_cell BK606.out 2).trans rfl
   have hfs34 := blk_frozen BK606.out 2
   have hns34_0 := NB592_606.out
   have hns34_1 := NB605_606.out
   have hms34_0 := NB606_592.out
   have hms34_1 := NB606_605.out
   refine skip_ (w1 := ?_) (by rfl) rfl ?_ ?_
   rotate_left
   ·go_simp
    rfl
   refine hK.out _ _ ⟨(cf_ NB592_606 ((cf_ NB592_606 ((cf_ NB592_606 (hHeld.1)))))), (cf_ NB592_606 ((cf_ NB592_606 ((cf_ NB592_606 (hHeld.2.1)))))), (cf_ NB592_606 ((cf_ NB592_606 ((cf_ NB592_606 (hHeld.2.2.1)))))), (cf_ NB592_606 ((cf_ NB592_606 ((cf_ NB592_606 (hHeld.2.2.2))))))⟩ (fun hHeld => ?_)
   clear hK K
   refine done_ (done_of HT_.out (by kernel_rfl)) ?_
   clear hHeld
   have HOC := Aside0.mk (Kd.R_reads' HO591.out).2.1
   have HOW := Aside0.mk ((Kd.R_reads' (e := 33) (base := w.heap.size) (ok := fun k_ => True) (n := t589.length) (c := co19) (Kd.R_mono (Kd.R_mono (Kd.R_far (p := ⟨gb606, 2, none⟩) (Kd.R_far (p := ⟨gb606, 1, none⟩) (Kd.R_far (p := ⟨gb606, 0, none⟩) (Kd.R_far (p := ⟨gb605, 2, none⟩) (Kd.R_far (p := ⟨gb605, 1, none⟩) (Kd.R_far (p := ⟨gb605, 0, none⟩) (Kd.R_types (Kd.R_types HO591.out BK605.out (by decide)) BK606.out (by decide)) (fun _ hk => hk.1.2) (.int .i64 t596)) (fun _ hk => hk.1.2) (.int .i64 t597)) (fun _ hk => hk.1.2) (.int .i64 t598)) (fun _ hk => hk.2) (.int .i64 t602)) (fun _ hk => hk.2) (.int .i64 t603)) (fun _ hk => hk.2) (.int .i64 t604)) (fun _ h_ => h_.1)) (fun _ h_ => h_.1))).2.2)
   have Bm := Aside0.mk (blk_far (p := ⟨gb606, 2, none⟩) (blk_far (p := ⟨gb606, 1, none⟩) (blk_far (p := ⟨gb606, 0, none⟩) (blk_far (p := ⟨gb605, 2, none⟩) (blk_far (p := ⟨gb605, 1, none⟩) (blk_far (p := ⟨gb605, 0, none⟩) BK592.out NB592_605.out (.int .i64 t596)) NB592_605.out (.int .i64 t597)) NB592_605.out (.int .i64 t598)) NB592_606.out (.int .i64 t602)) NB592_606.out (.int .i64 t603)) NB592_606.out (.int .i64 t604))
   have Bf := Aside0.mk (blk_far (p := ⟨gb606, 2, none⟩) (blk_far (p := ⟨gb606, 1, none⟩) (blk_far (p := ⟨gb606, 0, none⟩) (blk_set (blk_set (blk_set BK605.out 0 (.int .i64 t596)) 1 (.int .i64 t597)) 2 (.int .i64 t598)) NB605_606.out (.int .i64 t602)) NB605_606.out (.int .i64 t603)) NB605_606.out (.int .i64 t604))
   have Bb := Aside0.mk (blk_set (blk_set (blk_set (blk_far (p := ⟨gb605, 2, none⟩) (blk_far (p := ⟨gb605, 1, none⟩) (blk_far (p := ⟨gb605, 0, none⟩) BK606.out NB606_605.out (.int .i64 t596)) NB606_605.out (.int .i64 t597)) NB606_605.out (.int .i64 t598)) 0 (.int .i64 t602)) 1 (.int .i64 t603)) 2 (.int .i64 t604))
   have HW := Aside0.mk (show Below w.heap.size w ((((((w28.setCell ⟨gb605, 0, none⟩ (.int .i64 t596)).setCell ⟨gb605, 1, none⟩ (.int .i64 t597)).setCell ⟨gb605, 2, none⟩ (.int .i64 t598)).setCell ⟨gb606, 0, none⟩ (.int .i64 t602)).setCell ⟨gb606, 1, none⟩ (.int .i64 t603)).setCell ⟨gb606, 2, none⟩ (.int .i64 t604)) from bh_ HB)
   have Nfb := NB605_606
   clear HO591 BK592 BK605 BK606 HB
   generalize ((((((w28.setCell ⟨gb605, 0, none⟩ (.int .i64 t596)).setCell ⟨gb605, 1, none⟩ (.int .i64 t597)).setCell ⟨gb605, 2, none⟩ (.int .i64 t598)).setCell ⟨gb606, 0, none⟩ (.int .i64 t602)).setCell ⟨gb606, 1, none⟩ (.int .i64 t603)).setCell ⟨gb606, 2, none⟩ (.int .i64 t604)) = W at HOW Bm Bf Bb HW ⊢
   have HN := Aside0.mk (Below.refl W.heap.size W)
   have H := HC15.out
   clear HC15
   obtain rfl : r = true := HT.out
   have e1 : t610 = t615 := by
    by_cases e : (t610 != t615) = true
    · rw [if_pos e] at H; exact absurd H (by simp)
    · simpa using e
   subst e1
   rw [if_neg (by simp)] at H
   have IN := Aside0.mk (ways_inv _ _ _ _ _ _ _ _ _ _ _ _ _ _ _ H)
   clear H HT
   obtain ⟨hm0, hm1, hm2, hm3, hq0, hq1, hq2, hq3⟩ := c4_ Bm
   rcases IN.out with ⟨rfl, q2, q3, q4, q5, q6, q7, q8, q9, kr, hr⟩ | ⟨rfl, q2, q3, kr, hr⟩
   ·
     subst q2 q3 q4
     unfold WaysN at q6 q7 q8 q9
     have HR := Aside0.mk hr
     clear IN hr
     have d5 : (wrap64 (t603 + t604) == wrap64 (t612 + t613)) = true := beq_iff_eq.mpr q5
     have d6 : decide (t598 ≤ wrap64 (wrap64 (wrap64 (Int.tmod a2 6) + 1) * 8)) = true := decide_eq_true q6
     have d7 : decide (t604 ≤ wrap64 (wrap64 (wrap64 (Int.tmod a2 6) + 1) * 8)) = true := decide_eq_true q7
     have Q8 := Aside0.mk q8
     have Q9 := Aside0.mk q9
     clear q5 q6 q7 q8 q9
     go_wp2_with (first
       | (go_at_call 23; (with_reducible refine (region_First.calls kj3 _ _ t589 63 0 _ t608 t609 true _ (cb_ HOW HN) HOC.out A13.out).mono ?_); rintro e w30 ⟨rfl, hb⟩; replace Bm := bb_ Bm hb; replace Bf := bb_ Bf hb; replace Bb := bb_ Bb hb; replace HN := bs_ HN hb; clear hb hm0 hm1 hm2 hm3 hq0 hq1 hq2 hq3)
       | ((with_reducible refine gate_dst (N := 10) rfl ?_); refine box_e 10 #[.int .i64 0, .int .i64 0, .int .u8 0] 33 ?_; intro gx hg w31 hbox hb; have Nm := bn_ Bm hg; have Mm := bm_ Bm hg; have Nf := bn_ Bf hg; have Mf := bm_ Bf hg; have Nb := bn_ Bb hg; have Mb := bm_ Bb hg; have GX := bg_ HN hg; have Bx := Aside0.mk hbox; replace Bm := bb_ Bm hb; replace Bf := bb_ Bf hb; replace Bb := bb_ Bb hb; replace HN := bs_ HN hb; clear hb hbox hg; have nm := Nm.out; have mm := Mm.out; obtain ⟨hx0, hx1, hx2, hy0, hy1, hy2⟩ := c3_ Bx; obtain ⟨hm0, hm1, hm2, hm3, hq0, hq1, hq2, hq3⟩ := c4_ Bm)
       | (go_at_call 24; (with_reducible refine (region_Last.calls kj3 _ _ t589 63 _ t612 t613 t614 true _ (Kd.C_below HOW.out (bh_ HN)) HOC.out A14.out).mono ?_); rintro e w32 ⟨rfl, hb⟩; replace Bm := Aside0.mk (blk_below (blk_far (blk_far (blk_far Bm.out Nm.out _) Nm.out _) Nm.out _) hb); replace Bf := Aside0.mk (blk_below (blk_far (blk_far (blk_far Bf.out Nf.out _) Nf.out _) Nf.out _) hb); replace Bb := Aside0.mk (blk_below (blk_far (blk_far (blk_far Bb.out Nb.out _) Nb.out _) Nb.out _) hb); replace Bx := Aside0.mk (blk_below (blk_set (blk_set (blk_set Bx.out 0 _) 1 _) 2 _) hb); replace HN := bs_ HN hb; clear hb hm0 hm1 hm2 hm3 hq0 hq1 hq2 hq3 hx0 hx1 hx2 hy0 hy1 hy2)
       | ((with_reducible refine gate_dst (N := 12) rfl ?_); refine box_e 12 #[.int .i64 0, .int .i64 0, .int .u8 0] 33 ?_; intro gy hg w33 hbox hb; have Kf := bn_ Bf hg; have Lf := bm_ Bf hg; have Kb := bn_ Bb hg; have Lb := bm_ Bb hg; have Kx := bn_ Bx hg; have Lx := bm_ Bx hg; have GY := bg_ HN hg; have By := Aside0.mk hbox; replace Bf := bb_ Bf hb; replace Bb := bb_ Bb hb; replace Bx := bb_ Bx hb; replace HN := bs_ HN hb; clear hb hbox hg; have nf := Kf.out; have mf := Lf.out; have nb := Kb.out; have mb := Lb.out; have nx := Kx.out; have mx := Lx.out; obtain ⟨hy0, hy1, hy2, hz0, hz1, hz2⟩ := c3_ By; obtain ⟨hf0, hf1, hf2, _, _, _⟩ := c3_ Bf; obtain ⟨hb0, hb1, hb2, _, _, _⟩ := c3_ Bb; obtain ⟨hx0, hx1, hx2, _, _, _⟩ := c3_ Bx))
     have hf1' : (((w33.setCell ⟨gy, 0, none⟩ (.int .i64 t612)).setCell ⟨gy, 1, none⟩ (.int .i64 t613)).setCell ⟨gy, 2, none⟩ (.int .u8 t614)).heap[gb605]? = _ := blk_far (p := ⟨gy, 2, none⟩) (blk_far (p := ⟨gy, 1, none⟩) (blk_far (p := ⟨gy, 0, none⟩) Bf.out Kf.out (.int .i64 t612)) Kf.out (.int .i64 t613)) Kf.out (.int .u8 t614)
     have hb1' : (((w33.setCell ⟨gy, 0, none⟩ (.int .i64 t612)).setCell ⟨gy, 1, none⟩ (.int .i64 t613)).setCell ⟨gy, 2, none⟩ (.int .u8 t614)).heap[gb606]? = _ := blk_far (p := ⟨gy, 2, none⟩) (blk_far (p := ⟨gy, 1, none⟩) (blk_far (p := ⟨gy, 0, none⟩) Bb.out Kb.out (.int .i64 t612)) Kb.out (.int .i64 t613)) Kb.out (.int .u8 t614)
     have hx1' : (((w33.setCell ⟨gy, 0, none⟩ (.int .i64 t612)).setCell ⟨gy, 1, none⟩ (.int .i64 t613)).setCell ⟨gy, 2, none⟩ (.int .u8 t614)).heap[gx]? = _ := blk_far (p := ⟨gy, 2, none⟩) (blk_far (p := ⟨gy, 1, none⟩) (blk_far (p := ⟨gy, 0, none⟩) Bx.out Kx.out (.int .i64 t612)) Kx.out (.int .i64 t613)) Kx.out (.int .u8 t614)
     have hy1' := blk_set (blk_set (blk_set By.out 0 (.int .i64 t612)) 1 (.int .i64 t613)) 2 (.int .u8 t614)
     have hN' : Below W.heap.size W (((w33.setCell ⟨gy, 0, none⟩ (.int .i64 t612)).setCell ⟨gy, 1, none⟩ (.int .i64 t613)).setCell ⟨gy, 2, none⟩ (.int .u8 t614)) := bh_ HN
     clear Bf Bb Bx By HN hf0 hf1 hf2 hb0 hb1 hb2 hx0 hx1 hx2 hy0 hy1 hy2 hz0 hz1 hz2
     generalize (((w33.setCell ⟨gy, 0, none⟩ (.int .i64 t612)).setCell ⟨gy, 1, none⟩ (.int .i64 t613)).setCell ⟨gy, 2, none⟩ (.int .u8 t614)) = W9 at hf1' hb1' hx1' hy1' hN' ⊢
     have Bf := Aside0.mk hf1'
     have Bb := Aside0.mk hb1'
     have Bx := Aside0.mk hx1'
     have By := Aside0.mk hy1'
     have HN := Aside0.mk hN'
     clear hf1' hb1' hx1' hy1' hN'
     obtain ⟨hf0, hf1, hf2⟩ := k3_ Bf
     obtain ⟨hb0, hb1, hb2⟩ := k3_ Bb
     go_quiet (fail)
     clear hf0 hf1 hf2 hb0 hb1 hb2
     obtain ⟨hf0, hf1, hf2⟩ := k3_ Bf
     obtain ⟨hb0, hb1, hb2⟩ := k3_ Bb
     obtain ⟨hx0, hx1, hx2⟩ := k3_ Bx
     obtain ⟨hy0, hy1, hy2⟩ := k3_ By
     rcases Q8.out with q8 | ⟨q8, q8a, q8b⟩
     · rcases Q9.out with q9 | ⟨q9, q9a, q9b⟩
       · have e8 : (wrap64 (t597 + t598) == wrap64 (t597 + t608)) = true := beq_iff_eq.mpr q8
         have e9 : (t603 == t612) = true := beq_iff_eq.mpr q9
         clear q8 q9
         go_wp2_with (first
           | (go_at_call 3; (with_reducible refine (salvorlaw18_PlanRuns.calls kr true _ HR.out).mono ?_); rintro e w34 ⟨rfl, hb⟩; replace HN := bs_ HN hb; clear hb))
         all_goals
           go_ret
           exact ⟨rfl, below_step HW.out (bh_ HN)⟩
       · have e8 : (wrap64 (t597 + t598) == wrap64 (t597 + t608)) = true := beq_iff_eq.mpr q8
         have e9 : (t603 == t612) = false := beq_eq_false_iff_ne.mpr q9
         have e9a : (Int.tmod t603 8 == 0) = true := beq_iff_eq.mpr q9a
         have e9b : decide (wrap64 (wrap64 (wrap64 (wrap64 (Int.tmod a2 6) + 1) * 8) - 8) < t604) = true := decide_eq_true q9b
         clear q8 q9 q9a q9b
         go_wp2_with (first
           | (go_at_call 3; (with_reducible refine (salvorlaw18_PlanRuns.calls kr true _ HR.out).mono ?_); rintro e w34 ⟨rfl, hb⟩; replace HN := bs_ HN hb; clear hb))
         all_goals
           go_ret
           exact ⟨rfl, below_step HW.out (bh_ HN)⟩
     · rcases Q9.out with q9 | ⟨q9, q9a, q9b⟩
       · have e8 : (wrap64 (t597 + t598) == wrap64 (t597 + t608)) = false := beq_eq_false_iff_ne.mpr q8
         have e8a : (Int.tmod (wrap64 (t597 + t598)) 8 == 0) = true := beq_iff_eq.mpr q8a
         have e8b : decide (wrap64 (wrap64 (wrap64 (wrap64 (Int.tmod a2 6) + 1) * 8) - 8) < t598) = true := decide_eq_true q8b
         have e9 : (t603 == t612) = true := beq_iff_eq.mpr q9
         clear q8 q9 q8a q8b
         go_wp2_with (first
           | (go_at_call 3; (with_reducible refine (salvorlaw18_PlanRuns.calls kr true _ HR.out).mono ?_); rintro e w34 ⟨rfl, hb⟩; replace HN := bs_ HN hb; clear hb))
         all_goals
           go_ret
           exact ⟨rfl, below_step HW.out (bh_ HN)⟩
       · have e8 : (wrap64 (t597 + t598) == wrap64 (t597 + t608)) = false := beq_eq_false_iff_ne.mpr q8
         have e8a : (Int.tmod (wrap64 (t597 + t598)) 8 == 0) = true := beq_iff_eq.mpr q8a
         have e8b : decide (wrap64 (wrap64 (wrap64 (wrap64 (Int.tmod a2 6) + 1) * 8) - 8) < t598) = true := decide_eq_true q8b
         have e9 : (t603 == t612) = false := beq_eq_false_iff_ne.mpr q9
         have e9a : (Int.tmod t603 8 == 0) = true := beq_iff_eq.mpr q9a
         have e9b : decide (wrap64 (wrap64 (wrap64 (wrap64 (Int.tmod a2 6) + 1) * 8) - 8) < t604) = true := decide_eq_true q9b
         clear q8 q9 q8a q8b q9a q9b
         go_wp2_with (first
           | (go_at_call 3; (with_reducible refine (salvorlaw18_PlanRuns.calls kr true _ HR.out).mono ?_); rintro e w34 ⟨rfl, hb⟩; replace HN := bs_ HN hb; clear hb))
         all_goals
           go_ret
           exact ⟨rfl, below_step HW.out (bh_ HN)⟩
   · have d2 : (t596 != 1) = true := bne_iff_ne.mpr q2
     have d3 : (t602 != 1) = true := bne_iff_ne.mpr q3
     have HR := Aside0.mk hr
     clear IN q2 q3 hr
     go_wp2_with (first
       | (go_at_call 23; (with_reducible refine (region_First.calls kj3 _ _ t589 63 0 t607 t608 t609 false _ (cb_ HOW HN) HOC.out A13.out).mono ?_); rintro e w30 ⟨rfl, hb⟩; replace Bm := bb_ Bm hb; replace Bf := bb_ Bf hb; replace Bb := bb_ Bb hb; replace HN := bs_ HN hb; clear hb hm0 hm1 hm2 hm3 hq0 hq1 hq2 hq3)
       | ((with_reducible refine gate_dst (N := 10) rfl ?_); refine box_e 10 #[.int .i64 0, .int .i64 0, .int .u8 0] 33 ?_; intro gx hg w31 hbox hb; have Nm := bn_ Bm hg; have Mm := bm_ Bm hg; have Nf := bn_ Bf hg; have Mf := bm_ Bf hg; have Nb := bn_ Bb hg; have Mb := bm_ Bb hg; have GX := bg_ HN hg; have Bx := Aside0.mk hbox; replace Bm := bb_ Bm hb; replace Bf := bb_ Bf hb; replace Bb := bb_ Bb hb; replace HN := bs_ HN hb; clear hb hbox hg; have nm := Nm.out; have mm := Mm.out; obtain ⟨hx0, hx1, hx2, hy0, hy1, hy2⟩ := c3_ Bx; obtain ⟨hm0, hm1, hm2, hm3, hq0, hq1, hq2, hq3⟩ := c4_ Bm)
       | (go_at_call 24; (with_reducible refine (region_Last.calls kj3 _ _ t589 63 _ t612 t613 t614 false _ (Kd.C_below HOW.out (bh_ HN)) HOC.out A14.out).mono ?_); rintro e w32 ⟨rfl, hb⟩; replace Bm := Aside0.mk (blk_below (blk_far (blk_far (blk_far Bm.out Nm.out _) Nm.out _) Nm.out _) hb); replace Bf := Aside0.mk (blk_below (blk_far (blk_far (blk_far Bf.out Nf.out _) Nf.out _) Nf.out _) hb); replace Bb := Aside0.mk (blk_below (blk_far (blk_far (blk_far Bb.out Nb.out _) Nb.out _) Nb.out _) hb); replace Bx := Aside0.mk (blk_below (blk_set (blk_set (blk_set Bx.out 0 _) 1 _) 2 _) hb); replace HN := bs_ HN hb; clear hb hm0 hm1 hm2 hm3 hq0 hq1 hq2 hq3 hx0 hx1 hx2 hy0 hy1 hy2)
       | ((with_reducible refine gate_dst (N := 12) rfl ?_); refine box_e 12 #[.int .i64 0, .int .i64 0, .int .u8 0] 33 ?_; intro gy hg w33 hbox hb; have Kf := bn_ Bf hg; have Lf := bm_ Bf hg; have Kb := bn_ Bb hg; have Lb := bm_ Bb hg; have Kx := bn_ Bx hg; have Lx := bm_ Bx hg; have GY := bg_ HN hg; have By := Aside0.mk hbox; replace Bf := bb_ Bf hb; replace Bb := bb_ Bb hb; replace Bx := bb_ Bx hb; replace HN := bs_ HN hb; clear hb hbox hg; have nf := Kf.out; have mf := Lf.out; have nb := Kb.out; have mb := Lb.out; have nx := Kx.out; have mx := Lx.out; obtain ⟨hy0, hy1, hy2, hz0, hz1, hz2⟩ := c3_ By; have hf0 : w33.cell? ⟨gb605, 0, none⟩ = some (.int .i64 t596) := (blk_cell Bf.out 0).trans rfl; have hb0 : w33.cell? ⟨gb606, 0, none⟩ = some (.int .i64 t602) := (blk_cell Bb.out 0).trans rfl)
       | (go_at_call 3; (with_reducible refine (salvorlaw18_PlanRuns.calls kr true _ HR.out).mono ?_); rintro e w34 ⟨rfl, hb⟩; replace HN := bs_ HN hb; clear hb))
     go_ret
     exact ⟨rfl, below_step HW.out (bh_ HN)⟩
end Go.Proofs.Ytnoilinjlelpaaa.P
