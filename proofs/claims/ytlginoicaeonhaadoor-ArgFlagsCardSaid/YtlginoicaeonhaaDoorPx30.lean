/- Laid by a program of this session's own (wip/wprint.py, over the kit's print.py): functions of the given program as plain Lean functions, and that the program's calls come to their answers. -/
import Derived.Test.YtlginoicaeonhaaDoorPx0
import Derived.Test.YtlginoicaeonhaaDoorPx8
import Derived.Test.YtlginoicaeonhaaDoorPx12
import Derived.Test.YtlginoicaeonhaaDoorPx15
import Derived.Test.YtlginoicaeonhaaDoorPx21
import Derived.Test.YtlginoicaeonhaaDoorPx27
import Derived.Test.YtlginoicaeonhaaDoorPx28
import Derived.Test.YtlginoicaeonhaaDoorPx29
namespace Go.Proofs.YtlginoicaeonhaaDoor.P
open Go.RowKit Go.Proofs.YtlginoicaeonhaaDoorW.PrintWords Go.Proofs.YtlginoicaeonhaaDoorW.PrintLast Go.Proofs.YtlginoicaeonhaaDoorW.PrintMore
attribute [local go_sem] max2_int min2_int max_two min_two max_three min_three max_four min_four   -- for this text's walks alone
set_option linter.unusedVariables false
set_option linter.unusedSimpArgs false

/-! ### salvorlaw9_ArgFinds: function 9 -/
def salvorlaw9_ArgFinds.j0 : Nat → List (S31) → List ByteArray → ByteArray → ByteArray → Int → Bool → Option (Bool)
 | 0, _, _, _, _, _, _ => none
 | k + 1, x0, x1, x2, x3, x4, x27 => if x27 = true then ((salvorlaw9_ArgRuns.f k).bind fun t362 => (some t362)) else ((arg_Find.f x0 x2).bind fun bt363 => ((salvorref6_Find.f k x0 x2).bind fun bt365 => (if bt363.1.toList = bt365.1.toList then (if (bt363.2 == bt365.2) = true then ((arg_Only.f x0 x1).bind fun t367 => ((salvorref6_Only.f k x0 x1).bind fun t368 => (if (t367 == t368) = true then ((arg_Words.f x3 x4).bind fun t369 => ((salvorref6_Words.f k x3 x4).bind fun t372 => ((salvorref1_SameTexts.f k t369 t372).bind fun t375 => (if t375 = true then ((salvorlaw9_ArgRuns.f k).bind fun t376 => (some t376)) else (some false))))) else (some false)))) else (some false)) else (some false))))
def salvorlaw9_ArgFinds.f (k : Nat) (l0 : List (S31)) (l1 : List ByteArray) (a2 : ByteArray) (a3 : ByteArray) (a4 : Int) : Option (Bool) := if (l0.length : Int) > 60 then (salvorlaw9_ArgFinds.j0 k l0 l1 a2 a3 a4 true) else (if (l1.length : Int) > 60 then (salvorlaw9_ArgFinds.j0 k l0 l1 a2 a3 a4 true) else (salvorlaw9_ArgFinds.j0 k l0 l1 a2 a3 a4 (decide ((a3.size : Int) > 300))))
theorem salvorlaw9_ArgFinds.mono_l : ∀ k, (∀ y0 y1 y2 y3 y4 y5, LeO (salvorlaw9_ArgFinds.j0 k y0 y1 y2 y3 y4 y5) (salvorlaw9_ArgFinds.j0 (k + 1) y0 y1 y2 y3 y4 y5))
 | 0 => fun _ _ _ _ _ _ r h => by simp [salvorlaw9_ArgFinds.j0] at h
 | k + 1 => by
  have ih0 := salvorlaw9_ArgFinds.mono_l k
  ·intro y0 y1 y2 y3 y4 y5
   unfold salvorlaw9_ArgFinds.j0
   repeat' first
   | (with_reducible exact ih0 _ _ _ _ _ _)
   | (with_reducible exact salvorlaw9_ArgRuns.mono _)
   | (with_reducible exact salvorref1_SameTexts.mono _ _ _)
   | (with_reducible exact salvorref6_Find.mono _ _ _)
   | (with_reducible exact salvorref6_Only.mono _ _ _)
   | (with_reducible exact salvorref6_Words.mono _ _ _)
   | (with_reducible exact LeO.refl _)
   | (with_reducible exact LeO.none _)
   | (with_reducible refine LeO.ite ?_ ?_)
   | (with_reducible refine LeO.bind ?_ (fun _ => ?_))
   | exact ih0 _ _ _ _ _ _
   | exact salvorlaw9_ArgRuns.mono _
   | exact salvorref1_SameTexts.mono _ _ _
   | exact salvorref6_Find.mono _ _ _
   | exact salvorref6_Only.mono _ _ _
   | exact salvorref6_Words.mono _ _ _
   | exact LeO.none _
   | refine LeO.ite ?_ ?_
   | refine LeO.bind ?_ (fun _ => ?_)
theorem salvorlaw9_ArgFinds.mono : ∀ a0 a1 a2 a3 a4 k, LeO (salvorlaw9_ArgFinds.f k a0 a1 a2 a3 a4) (salvorlaw9_ArgFinds.f (k + 1) a0 a1 a2 a3 a4) := by
 intro a0 a1 a2 a3 a4 k
 have ih0 := salvorlaw9_ArgFinds.mono_l k
 unfold salvorlaw9_ArgFinds.f
 repeat' first
   | (with_reducible exact ih0 _ _ _ _ _ _)
   | (with_reducible exact salvorlaw9_ArgRuns.mono _)
   | (with_reducible exact salvorref1_SameTexts.mono _ _ _)
   | (with_reducible exact salvorref6_Find.mono _ _ _)
   | (with_reducible exact salvorref6_Only.mono _ _ _)
   | (with_reducible exact salvorref6_Words.mono _ _ _)
   | (with_reducible exact LeO.refl _)
   | (with_reducible exact LeO.none _)
   | (with_reducible refine LeO.ite ?_ ?_)
   | (with_reducible refine LeO.bind ?_ (fun _ => ?_))
   | exact ih0 _ _ _ _ _ _
   | exact salvorlaw9_ArgRuns.mono _
   | exact salvorref1_SameTexts.mono _ _ _
   | exact salvorref6_Find.mono _ _ _
   | exact salvorref6_Only.mono _ _ _
   | exact salvorref6_Words.mono _ _ _
   | exact LeO.none _
   | refine LeO.ite ?_ ?_
   | refine LeO.bind ?_ (fun _ => ?_)
set_option maxHeartbeats 8000000 in
set_option maxRecDepth 100000 in
theorem salvorlaw9_ArgFinds.calls (k : Nat) (A0 : Option Addr) (c0 : Nat) (l0 : List (S31)) (A1 : Option Addr) (c1 : Nat) (l1 : List ByteArray) (a2 : ByteArray) (a3 : ByteArray) (a4 : Int) (r : Bool) (w : World) (hr0 : Kd.C k31 w A0 l0.length l0) (hc0 : l0.length ≤ c0) (hr1 : Kd.C Kd.string w A1 l1.length l1) (hc1 : l1.length ≤ c1) (h : salvorlaw9_ArgFinds.f k l0 l1 a2 a3 a4 = some r) (htab : TabAt w) (hrt : r = true) :
  Calls Tryd.prog 9 #[.slice A0 l0.length c0, .slice A1 l1.length c1, .string a2, .string a3, .int .u8 a4] w fun e w' => e = .returned (.bool r) ∧ Below w.heap.size w w' := by
 have HT := Aside0.mk hrt
 clear hrt
 have HTAB := Aside0.mk htab
 clear htab
 have HR0 := Aside0.mk hr0
 have HC0 := Aside0.mk hc0
 clear hr0 hc0
 have HR1 := Aside0.mk hr1
 have HC1 := Aside0.mk hc1
 clear hr1 hc1
 have HB := Aside0.mk (Below.refl w.heap.size w)
 have H : (if (l0.length : Int) > 60 then (salvorlaw9_ArgFinds.j0 k l0 l1 a2 a3 a4 true) else (if (l1.length : Int) > 60 then (salvorlaw9_ArgFinds.j0 k l0 l1 a2 a3 a4 true) else (salvorlaw9_ArgFinds.j0 k l0 l1 a2 a3 a4 (decide ((a3.size : Int) > 300))))) = some r := h
 clear h
 have HC6 := Aside0.mk H
 clear H
 go_enter Tryd.func9, Tryd.ntmps9
 go_upto_region 1 with (fail)
 go_cut [27] (fun v27 wc => ∃ (kq : Nat) (x27_5 : Bool), v27 = .bool x27_5 ∧ Aside0 (salvorlaw9_ArgFinds.j0 kq l0 l1 a2 a3 a4 x27_5 = some r) ∧ Aside0 (kq ≤ k) ∧ Aside0 (Below w.heap.size w wc))
 case first =>
  have H := HC6.out
  clear HC6
  by_cases c7 : (l0.length : Int) > 60
  ·rw [if_pos c7] at H
   have c7b0 : decide (60 < (l0.length : Int)) = true := decide_eq_true c7
   have c7b1 : decide (60 < l0.length) = true := decide_eq_true (by omega)
   clear c7
   (first | rw [c7b0] | (simp only [i64_w, i32_w]; rw [c7b0]) | skip)
   have H' := Aside0.mk H
   clear H
   go_wp2
   go_meet
   case rel => exact ⟨_, (true), (by first | rfl | (simp; done) | (simp [*]; done)), H', ⟨by first | omega | exact Nat.le_refl _⟩, ⟨bh_ HB⟩⟩
  ·rw [if_neg c7] at H
   have c7b0 : decide (60 < (l0.length : Int)) = false := decide_eq_false c7
   have c7b1 : decide (60 < l0.length) = false := decide_eq_false (by omega)
   clear c7
   (first | rw [c7b0] | (simp only [i64_w, i32_w]; rw [c7b0]) | skip)
   by_cases c8 : (l1.length : Int) > 60
   ·rw [if_pos c8] at H
    have c8b0 : decide (60 < (l1.length : Int)) = true := decide_eq_true c8
    have c8b1 : decide (60 < l1.length) = true := decide_eq_true (by omega)
    clear c8
    have H' := Aside0.mk H
    clear H
    go_wp2
    go_meet
    case rel => exact ⟨_, (true), (by first | rfl | (simp; done) | (simp [*]; done)), H', ⟨by first | omega | exact Nat.le_refl _⟩, ⟨bh_ HB⟩⟩
   ·rw [if_neg c8] at H
    have c8b0 : decide (60 < (l1.length : Int)) = false := decide_eq_false c8
    have c8b1 : decide (60 < l1.length) = false := decide_eq_false (by omega)
    clear c8
    have H' := Aside0.mk H
    clear H
    go_wp2
    go_meet
    case rel => exact ⟨_, (decide ((a3.size : Int) > 300)), (by first | rfl | (simp; done) | (simp [*]; done)), H', ⟨by first | omega | exact Nat.le_refl _⟩, ⟨bh_ HB⟩⟩
 case rest =>
  clear HC6
  try clear c1
  try clear p2
  try clear c7
  try clear c7b0
  try clear c7b1
  try clear c8
  try clear c8b0
  try clear c8b1
  obtain ⟨kq, x27_5, rfl, HA, HJ5, HB⟩ := hcut
  cases kq with
  | zero => exact absurd HA.out (by simp [salvorlaw9_ArgFinds.j0])
  | succ kj5 =>
   have H := HA.out
   clear HA
   simp only [salvorlaw9_ArgFinds.j0] at H
   by_cases c9 : x27_5 = true
   ·subst c9
    have H1 : ((salvorlaw9_ArgRuns.f kj5).bind fun t362 => (some t362)) = some r := by rw [if_pos rfl] at H; exact H
    clear H
    have H := H1
    clear H1
    replace H := Option.bind_eq_some_iff.mp H
    obtain ⟨t362, A100, H⟩ := H
    replace H : (some t362) = some r := H
    have A10 := Aside0.mk A100
    clear A100
    obtain rfl := Option.some.inj H
    go_wp2_with (first | ((with_reducible refine gate_callee (f := 3) rfl ?_); refine gl_ (some 28) rfl rfl Tryd.func3 (by kernel_rfl) rfl #[] rfl ?_; (with_reducible refine (salvorlaw9_ArgRuns.calls kj5  t362 _ A10.out ?tb0_).mono ?_); (case tb0_ => exact tb_ HTAB HB); rintro e w11 ⟨rfl, hb⟩; refine ⟨_, rfl, ?_⟩; replace HB := bs_ HB hb; (try clear hb)))
    go_ret
    exact ⟨by first | rfl | (simp [errW_none, errW_some] <;> rfl) | (simp [*, errW_none, errW_some] <;> rfl), bh_ HB⟩
   ·replace c9 := Bool.eq_false_iff.mpr c9
    subst c9
    have H1 : ((arg_Find.f l0 a2).bind fun bt363 => ((salvorref6_Find.f kj5 l0 a2).bind fun bt365 => (if bt363.1.toList = bt365.1.toList then (if (bt363.2 == bt365.2) = true then ((arg_Only.f l0 l1).bind fun t367 => ((salvorref6_Only.f kj5 l0 l1).bind fun t368 => (if (t367 == t368) = true then ((arg_Words.f a3 a4).bind fun t369 => ((salvorref6_Words.f kj5 a3 a4).bind fun t372 => ((salvorref1_SameTexts.f kj5 t369 t372).bind fun t375 => (if t375 = true then ((salvorlaw9_ArgRuns.f kj5).bind fun t376 => (some t376)) else (some false))))) else (some false)))) else (some false)) else (some false)))) = some r := by rw [if_neg (show ¬ (false = true) by decide)] at H; exact H
    clear H
    have H := H1
    clear H1
    replace H := Option.bind_eq_some_iff.mp H
    obtain ⟨⟨t363, t364⟩, A120, H⟩ := H
    replace H : ((salvorref6_Find.f kj5 l0 a2).bind fun bt365 => (if t363.toList = bt365.1.toList then (if (t364 == bt365.2) = true then ((arg_Only.f l0 l1).bind fun t367 => ((salvorref6_Only.f kj5 l0 l1).bind fun t368 => (if (t367 == t368) = true then ((arg_Words.f a3 a4).bind fun t369 => ((salvorref6_Words.f kj5 a3 a4).bind fun t372 => ((salvorref1_SameTexts.f kj5 t369 t372).bind fun t375 => (if t375 = true then ((salvorlaw9_ArgRuns.f kj5).bind fun t376 => (some t376)) else (some false))))) else (some false)))) else (some false)) else (some false))) = some r := H
    have A12 := Aside0.mk A120
    clear A120
    replace H := Option.bind_eq_some_iff.mp H
    obtain ⟨⟨t365, t366⟩, A130, H⟩ := H
    replace H : (if t363.toList = t365.toList then (if (t364 == t366) = true then ((arg_Only.f l0 l1).bind fun t367 => ((salvorref6_Only.f kj5 l0 l1).bind fun t368 => (if (t367 == t368) = true then ((arg_Words.f a3 a4).bind fun t369 => ((salvorref6_Words.f kj5 a3 a4).bind fun t372 => ((salvorref1_SameTexts.f kj5 t369 t372).bind fun t375 => (if t375 = true then ((salvorlaw9_ArgRuns.f kj5).bind fun t376 => (some t376)) else (some false))))) else (some false)))) else (some false)) else (some false)) = some r := H
    have A13 := Aside0.mk A130
    clear A130
    by_cases c14 : t363.toList = t365.toList
    ·rw [if_pos c14] at H
     have c14b0 : (t363.toList == t365.toList) = true := beq_iff_eq.mpr c14
     have c14b1 : (t363.toList != t365.toList) = false := bne_eq_false_iff_eq.mpr c14
     clear c14
     by_cases c15 : (t364 == t366) = true
     ·rw [if_pos c15] at H
      have c15b0 : (t364 == t366) = true := c15
      (try (have c15b1 : decide (t364 = t366) = true := by simpa using c15))
      (try (have c15b2 : (t364 == t366) = true := by simpa using c15))
      clear c15
      replace H := Option.bind_eq_some_iff.mp H
      obtain ⟨t367, A160, H⟩ := H
      replace H : ((salvorref6_Only.f kj5 l0 l1).bind fun t368 => (if (t367 == t368) = true then ((arg_Words.f a3 a4).bind fun t369 => ((salvorref6_Words.f kj5 a3 a4).bind fun t372 => ((salvorref1_SameTexts.f kj5 t369 t372).bind fun t375 => (if t375 = true then ((salvorlaw9_ArgRuns.f kj5).bind fun t376 => (some t376)) else (some false))))) else (some false))) = some r := H
      have A16 := Aside0.mk A160
      clear A160
      replace H := Option.bind_eq_some_iff.mp H
      obtain ⟨t368, A170, H⟩ := H
      replace H : (if (t367 == t368) = true then ((arg_Words.f a3 a4).bind fun t369 => ((salvorref6_Words.f kj5 a3 a4).bind fun t372 => ((salvorref1_SameTexts.f kj5 t369 t372).bind fun t375 => (if t375 = true then ((salvorlaw9_ArgRuns.f kj5).bind fun t376 => (some t376)) else (some false))))) else (some false)) = some r := H
      have A17 := Aside0.mk A170
      clear A170
      by_cases c18 : (t367 == t368) = true
      ·rw [if_pos c18] at H
       have c18b0 : (t367 == t368) = true := c18
       (try (have c18b1 : decide (t367 = t368) = true := by simpa using c18))
       (try (have c18b2 : (t367 == t368) = true := by simpa using c18))
       clear c18
       replace H := Option.bind_eq_some_iff.mp H
       obtain ⟨t369, A190, H⟩ := H
       replace H : ((salvorref6_Words.f kj5 a3 a4).bind fun t372 => ((salvorref1_SameTexts.f kj5 t369 t372).bind fun t375 => (if t375 = true then ((salvorlaw9_ArgRuns.f kj5).bind fun t376 => (some t376)) else (some false)))) = some r := H
       have A19 := Aside0.mk A190
       clear A190
       replace H := Option.bind_eq_some_iff.mp H
       obtain ⟨t372, A200, H⟩ := H
       replace H : ((salvorref1_SameTexts.f kj5 t369 t372).bind fun t375 => (if t375 = true then ((salvorlaw9_ArgRuns.f kj5).bind fun t376 => (some t376)) else (some false))) = some r := H
       have A20 := Aside0.mk A200
       clear A200
       replace H := Option.bind_eq_some_iff.mp H
       obtain ⟨t375, A210, H⟩ := H
       replace H : (if t375 = true then ((salvorlaw9_ArgRuns.f kj5).bind fun t376 => (some t376)) else (some false)) = some r := H
       have A21 := Aside0.mk A210
       clear A210
       by_cases c22 : t375 = true
       ·subst c22
        have H1 : ((salvorlaw9_ArgRuns.f kj5).bind fun t376 => (some t376)) = some r := by rw [if_pos rfl] at H; exact H
        clear H
        have H := H1
        clear H1
        replace H := Option.bind_eq_some_iff.mp H
        obtain ⟨t376, A230, H⟩ := H
        replace H : (some t376) = some r := H
        have A23 := Aside0.mk A230
        clear A230
        obtain rfl := Option.some.inj H
        go_wp2_with (first | ((with_reducible refine gate_callee (f := 18) rfl ?_); refine gl_ (some 32) rfl rfl Tryd.func18 (by kernel_rfl) rfl #[.slice A0 l0.length c0, .string a2] rfl ?_; (with_reducible refine (arg_Find.calls _ _ l0 a2 t363 t364 _ ?side1 ?side2 A12.out).mono ?_); (case side1 => exact cb_ HR0 HB); (case side2 => exact HC0.out); rintro e w24 ⟨rfl, hb⟩; refine ⟨_, rfl, ?_⟩; replace HB := bs_ HB hb; (try clear hb)) | ((with_reducible refine gate_callee (f := 19) rfl ?_); refine gl_ (some 38) rfl rfl Tryd.func19 (by kernel_rfl) rfl #[.slice A0 l0.length c0, .string a2] rfl ?_; (with_reducible refine (salvorref6_Find.calls kj5 _ _ l0 a2 t365 t366 _ ?side1 ?side2 A13.out).mono ?_); (case side1 => exact cb_ HR0 HB); (case side2 => exact HC0.out); rintro e w' ⟨rfl, ⟨nd, rfl⟩⟩; refine ⟨_, rfl, ?_⟩) | (go_at_call 20; (with_reducible refine (arg_Only.calls _ _ l0 _ _ l1 t367 _ ?side1 ?side2 ?side3 ?side4 A16.out).mono ?_); (case side1 => repeat (first | exact (Kd.C_below HR0.out (bh_ HB)) | (with_reducible refine Kd.C_alloc ?_ _) | (with_reducible refine Kd.C_drewN ?_ _) | (with_reducible refine Kd.C_drew ?_))); (case side2 => exact HC0.out); (case side3 => repeat (first | exact (Kd.C_below HR1.out (bh_ HB)) | (with_reducible refine Kd.C_alloc ?_ _) | (with_reducible refine Kd.C_drewN ?_ _) | (with_reducible refine Kd.C_drew ?_))); (case side4 => exact HC1.out); rintro e w25 ⟨rfl, hb⟩; replace HB := bs_ HB hb; (try clear hb)) | (go_at_call 21; (with_reducible refine (salvorref6_Only.calls kj5 _ _ l0 _ _ l1 t368 _ ?side1 ?side2 ?side3 ?side4 A17.out).mono ?_); (case side1 => exact cb_ HR0 HB); (case side2 => exact HC0.out); (case side3 => exact cb_ HR1 HB); (case side4 => exact HC1.out); rintro e w' ⟨rfl, ⟨nd, rfl⟩⟩) | (go_at_call 12; (with_reducible refine (arg_Words.calls a3 a4 t369 _ A19.out ?tb2_).mono ?_); (case tb2_ => exact tb_ HTAB HB); rintro e w26 ⟨v370, rfl, ho0, hb⟩; have HO371 := Aside0.mk (Kd.R_lower ho0 (below_size (bh_ HB))); replace HB := bs_ HB hb; (try clear hb); (try clear hb2); (try clear hk); (try clear hi); (try clear ho0)) | (go_at_call 22; (with_reducible refine (salvorref6_Words.calls kj5 a3 a4 t372 _ A20.out).mono ?_); rintro e w27 ⟨v373, rfl, ho0, hb⟩; have n0_ := Aside0.mk (Kd.R_elder' (by (with_reducible repeat (first | apply Kd.R_alloc | apply Kd.R_drewN | apply Kd.R_drew)); exact HO371.out) (Kd.R_base ho0) hb); have n1_ := Aside0.mk (Kd.R_lower (Kd.R_new' ho0 (Kd.R_lt (by (with_reducible repeat (first | apply Kd.R_alloc | apply Kd.R_drewN | apply Kd.R_drew)); exact HO371.out))) (below_size (bh_ HB))); have n2_ := bs_ HB hb; clear HO371; clear HB; have HO371 := n0_; have HO374 := n1_; have HB := n2_; clear n0_ n1_ n2_; (try clear hb); (try clear hb2); (try clear hk); (try clear hi); (try clear ho0); obtain ⟨Ao28, co28, eo28⟩ := Kd.R_slice HO371.out; subst eo28; obtain ⟨Ao29, co29, eo29⟩ := Kd.R_slice HO374.out; subst eo29) | (go_at_call 17; (with_reducible refine (salvorref1_SameTexts.calls kj5 _ _ t369 _ _ t372 true _ ?side1 ?side2 ?side3 ?side4 A21.out).mono ?_); (case side1 => repeat (first | exact (Kd.R_reads' HO371.out).2.2 | (with_reducible refine Kd.C_alloc ?_ _) | (with_reducible refine Kd.C_drewN ?_ _) | (with_reducible refine Kd.C_drew ?_))); (case side2 => exact (Kd.R_reads' HO371.out).2.1); (case side3 => repeat (first | exact (Kd.R_reads' HO374.out).2.2 | (with_reducible refine Kd.C_alloc ?_ _) | (with_reducible refine Kd.C_drewN ?_ _) | (with_reducible refine Kd.C_drew ?_))); (case side4 => exact (Kd.R_reads' HO374.out).2.1); rintro e w' ⟨rfl, ⟨nd, rfl⟩⟩) | (go_at_call 3; (with_reducible refine (salvorlaw9_ArgRuns.calls kj5  t376 _ A23.out ?tb4_).mono ?_); (case tb4_ => exact tb_ HTAB HB); rintro e w30 ⟨rfl, hb⟩; have n0_ := Aside0.mk (Kd.R_below (by (with_reducible repeat (first | apply Kd.R_alloc | apply Kd.R_drewN | apply Kd.R_drew)); exact HO371.out) hb); have n1_ := Aside0.mk (Kd.R_below (by (with_reducible repeat (first | apply Kd.R_alloc | apply Kd.R_drewN | apply Kd.R_drew)); exact HO374.out) hb); have n2_ := bs_ HB hb; clear HO371; clear HO374; clear HB; have HO371 := n0_; have HO374 := n1_; have HB := n2_; clear n0_ n1_ n2_; (try clear hb)))
        go_ret
        exact ⟨by first | rfl | (simp [errW_none, errW_some] <;> rfl) | (simp [*, errW_none, errW_some] <;> rfl), bh_ HB⟩
       ·replace c22 := Bool.eq_false_iff.mpr c22
        subst c22
        have H1 : (some false) = some r := by rw [if_neg (show ¬ (false = true) by decide)] at H; exact H
        clear H
        have H := H1
        clear H1
        exact absurd ((Option.some.inj H).trans HT.out) (by simp)
      ·rw [if_neg c18] at H
       have c18b0 : (t367 == t368) = false := by simpa using c18
       (try (have c18b1 : decide (t367 = t368) = false := by simpa using c18))
       (try (have c18b2 : (t367 == t368) = false := by simpa using c18))
       (try (have c18b3 : ¬ (t367 = t368) := by simpa using c18))
       clear c18
       exact absurd ((Option.some.inj H).trans HT.out) (by simp)
     ·rw [if_neg c15] at H
      have c15b0 : (t364 == t366) = false := by simpa using c15
      (try (have c15b1 : decide (t364 = t366) = false := by simpa using c15))
      (try (have c15b2 : (t364 == t366) = false := by simpa using c15))
      (try (have c15b3 : ¬ (t364 = t366) := by simpa using c15))
      clear c15
      exact absurd ((Option.some.inj H).trans HT.out) (by simp)
    ·rw [if_neg c14] at H
     have c14b0 : (t363.toList == t365.toList) = false := beq_eq_false_iff_ne.mpr c14
     have c14b1 : (t363.toList != t365.toList) = true := bne_iff_ne.mpr c14
     exact absurd ((Option.some.inj H).trans HT.out) (by simp)

end Go.Proofs.YtlginoicaeonhaaDoor.P
