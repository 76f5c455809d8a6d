/- Laid by a program of this session's own (wip/wprint.py, over the kit's print.py): functions of the given program as plain Lean functions, and that the program's calls come to their answers. -/
import Derived.Test.YtnoilinjlelpaaaPx0
import Derived.Test.YtnoilinjlelpaaaPx2
namespace Go.Proofs.Ytnoilinjlelpaaa.P
open Go.RowKit Go.Proofs.YtnoilinjlelpaaaW.PrintWords Go.Proofs.YtnoilinjlelpaaaW.PrintLast Go.Proofs.YtnoilinjlelpaaaW.PrintMore
attribute [local go_sem] max2_int min2_int max_two min_two max_three min_three max_four min_four   -- for this text's walks alone
set_option linter.unusedVariables false
set_option linter.unusedSimpArgs false

attribute [local go_sem high] eqA33
/-! ### salvorref16_SameRegions: function 30 -/
def salvorref16_SameRegions.l0 : Nat → List (S33) → List (S33) → Int → Option (Bool)
 | 0, _, _, _ => none
 | k + 1, x0, x1, x5 => if x5 < (x0.length : Int) then (if 0 ≤ x5 then (if x5 < (x1.length : Int) then (if (!(((rd_T33 x0 x5).f0) == ((rd_T33 x1 x5).f0)) || (!(((rd_T33 x0 x5).f1) == ((rd_T33 x1 x5).f1)) || (!(((rd_T33 x0 x5).f2) == ((rd_T33 x1 x5).f2))))) = true then (some false) else (salvorref16_SameRegions.l0 k x0 x1 (wrap64 (x5 + 1)))) else (none)) else (none)) else (some true)
def salvorref16_SameRegions.f (k : Nat) (l0 : List (S33)) (l1 : List (S33)) : Option (Bool) := if (l0.length : Int) = (l1.length : Int) then (salvorref16_SameRegions.l0 k l0 l1 0) else (some false)
theorem salvorref16_SameRegions.mono_l : ∀ k, (∀ y0 y1 y2, LeO (salvorref16_SameRegions.l0 k y0 y1 y2) (salvorref16_SameRegions.l0 (k + 1) y0 y1 y2))
 | 0 => fun _ _ _ r h => by simp [salvorref16_SameRegions.l0] at h
 | k + 1 => by
  have ih0 := salvorref16_SameRegions.mono_l k
  ·intro y0 y1 y2
   unfold salvorref16_SameRegions.l0
   repeat' first
   | (with_reducible exact ih0 _ _ _)
   | (with_reducible exact LeO.refl _)
   | (with_reducible exact LeO.none _)
   | (with_reducible refine LeO.ite ?_ ?_)
   | (with_reducible refine LeO.bind ?_ (fun _ => ?_))
   | exact ih0 _ _ _
   | exact LeO.none _
   | refine LeO.ite ?_ ?_
   | refine LeO.bind ?_ (fun _ => ?_)
theorem salvorref16_SameRegions.mono : ∀ a0 a1 k, LeO (salvorref16_SameRegions.f k a0 a1) (salvorref16_SameRegions.f (k + 1) a0 a1) := by
 intro a0 a1 k
 have ih0 := salvorref16_SameRegions.mono_l k
 unfold salvorref16_SameRegions.f
 repeat' first
   | (with_reducible exact ih0 _ _ _)
   | (with_reducible exact LeO.refl _)
   | (with_reducible exact LeO.none _)
   | (with_reducible refine LeO.ite ?_ ?_)
   | (with_reducible refine LeO.bind ?_ (fun _ => ?_))
   | exact ih0 _ _ _
   | exact LeO.none _
   | refine LeO.ite ?_ ?_
   | refine LeO.bind ?_ (fun _ => ?_)
set_option maxHeartbeats 8000000 in
set_option maxRecDepth 100000 in
theorem salvorref16_SameRegions.calls (k : Nat) (A0 : Option Addr) (c0 : Nat) (l0 : List (S33)) (A1 : Option Addr) (c1 : Nat) (l1 : List (S33)) (r : Bool) (w : World) (hr0 : Kd.C k33 w A0 l0.length l0) (hc0 : l0.length ≤ c0) (hr1 : Kd.C k33 w A1 l1.length l1) (hc1 : l1.length ≤ c1) (h : salvorref16_SameRegions.f k l0 l1 = some r) :
  Calls Try.prog 30 #[.slice A0 l0.length c0, .slice A1 l1.length c1] w fun e w' => e = .returned (.bool r) ∧ Drawn0 w w' := by
 have hu33 := Try.underlying33
 have HR0 := Aside0.mk hr0
 have HC0 := Aside0.mk hc0
 clear hr0 hc0
 have HR1 := Aside0.mk hr1
 have HC1 := Aside0.mk hc1
 clear hr1 hc1
 have H : (if (l0.length : Int) = (l1.length : Int) then (salvorref16_SameRegions.l0 k l0 l1 0) else (some false)) = some r := h
 clear h
 by_cases c3 : (l0.length : Int) = (l1.length : Int)
 ·rw [if_pos c3] at H
  have c3b0 : ((l0.length : Int) == (l1.length : Int)) = true := beq_iff_eq.mpr c3
  have c3b1 : ((l0.length : Int) != (l1.length : Int)) = false := bne_eq_false_iff_eq.mpr c3
  have c3b2 : (l0.length == l1.length) = true := by first | simpa using c3 | (simp at c3 ⊢; omega)
  clear c3
  have H' := Aside0.mk H
  clear H
  go_enter Try.func30, Try.ntmps30
  go_wp2
  repeat (go_quiet (fail); try go_wp2)
  go_loopg [5] k (fun kq v5 w' => ∃ (x5_1 : Int), v5 = .int .i64 x5_1 ∧ Aside0 (salvorref16_SameRegions.l0 kq l0 l1 x5_1 = some r) ∧ Aside0 (kq ≤ k) ∧ Drawn0 w w')
  case atStart => exact ⟨(0), (by first | rfl | (simp; done) | (simp [*]; done)), H', ⟨Nat.le_refl _⟩, by repeat (first | exact Drawn0.refl _ | apply Drawn0.step)⟩
  case round =>
   clear H'
   try clear c1
   try clear p2
   try clear c3
   try clear c3b0
   try clear c3b1
   try clear c3b2
   obtain ⟨x5_1, rfl, HA, HK1, ⟨m1, rfl⟩⟩ := hrel
   cases gk with
   | zero => exact absurd HA.out (by simp [salvorref16_SameRegions.l0])
   | succ k1 =>
    have H := HA.out
    clear HA
    simp only [salvorref16_SameRegions.l0] at H
    by_cases c4 : x5_1 < (l0.length : Int)
    ·rw [if_pos c4] at H
     have c4b0 : decide (x5_1 < (l0.length : Int)) = true := decide_eq_true c4
     clear c4
     by_cases c5 : 0 ≤ x5_1
     ·rw [if_pos c5] at H
      have c5b0 : decide (0 ≤ x5_1) = true := decide_eq_true c5
      clear c5
      by_cases c6 : x5_1 < (l1.length : Int)
      ·rw [if_pos c6] at H
       have c6b0 : decide (x5_1 < (l1.length : Int)) = true := decide_eq_true c6
       clear c6
       by_cases c7 : (!(((rd_T33 l0 x5_1).f0) == ((rd_T33 l1 x5_1).f0)) || (!(((rd_T33 l0 x5_1).f1) == ((rd_T33 l1 x5_1).f1)) || (!(((rd_T33 l0 x5_1).f2) == ((rd_T33 l1 x5_1).f2))))) = true
       ·rw [if_pos c7] at H
        have c7b0 : (!(((rd_T33 l0 x5_1).f0) == ((rd_T33 l1 x5_1).f0)) || (!(((rd_T33 l0 x5_1).f1) == ((rd_T33 l1 x5_1).f1)) || (!(((rd_T33 l0 x5_1).f2) == ((rd_T33 l1 x5_1).f2))))) = true := c7
        clear c7
        obtain rfl := Option.some.inj H
        have p309 : 0 ≤ (x5_1 : Int) := of_decide_eq_true (by first | (with_reducible assumption) | assumption)
        have q309 : x5_1 < (l0.length : Int) := of_decide_eq_true (by first | (with_reducible assumption) | assumption)
        obtain ⟨ad309, e309, hx309_0, hx309_1, hx309_2⟩ := at_T33 HR0.out x5_1 p309 q309
        cases e309
        replace p309 := eq_true p309
        replace q309 := eq_true q309
        have p310 : 0 ≤ (x5_1 : Int) := of_decide_eq_true (by first | (with_reducible assumption) | assumption)
        have q310 : x5_1 < (l1.length : Int) := of_decide_eq_true (by first | (with_reducible assumption) | assumption)
        obtain ⟨ad310, e310, hx310_0, hx310_1, hx310_2⟩ := at_T33 HR1.out x5_1 p310 q310
        cases e310
        replace p310 := eq_true p310
        replace q310 := eq_true q310
        go_wp2
        repeat (go_quiet (fail); try go_wp2)
        go_ret
        exact ⟨by first | rfl | (simp; done) | (simp [*]; done), by repeat (first | exact Drawn0.refl _ | apply Drawn0.step)⟩
       ·rw [if_neg c7] at H
        have c7b0 : (!(((rd_T33 l0 x5_1).f0) == ((rd_T33 l1 x5_1).f0)) || (!(((rd_T33 l0 x5_1).f1) == ((rd_T33 l1 x5_1).f1)) || (!(((rd_T33 l0 x5_1).f2) == ((rd_T33 l1 x5_1).f2))))) = false := by simpa using c7
        clear c7
        have H' := Aside0.mk H
        clear H
        have p309 : 0 ≤ (x5_1 : Int) := of_decide_eq_true (by first | (with_reducible assumption) | assumption)
        have q309 : x5_1 < (l0.length : Int) := of_decide_eq_true (by first | (with_reducible assumption) | assumption)
        obtain ⟨ad309, e309, hx309_0, hx309_1, hx309_2⟩ := at_T33 HR0.out x5_1 p309 q309
        cases e309
        replace p309 := eq_true p309
        replace q309 := eq_true q309
        have p310 : 0 ≤ (x5_1 : Int) := of_decide_eq_true (by first | (with_reducible assumption) | assumption)
        have q310 : x5_1 < (l1.length : Int) := of_decide_eq_true (by first | (with_reducible assumption) | assumption)
        obtain ⟨ad310, e310, hx310_0, hx310_1, hx310_2⟩ := at_T33 HR1.out x5_1 p310 q310
        cases e310
        replace p310 := eq_true p310
        replace q310 := eq_true q310
        go_wp2
        repeat (go_quiet (fail); try go_wp2)
        go_roundg k1
        case measure => have := HK1.out; omega
        case rel => exact ⟨(wrap64 (x5_1 + 1)), (by first | rfl | (simp; done) | (simp [*]; done)), H', ⟨by have := HK1.out; omega⟩, by repeat (first | exact Drawn0.refl _ | apply Drawn0.step)⟩
      ·rw [if_neg c6] at H
       exact absurd H (by simp)
     ·rw [if_neg c5] at H
      exact absurd H (by simp)
    ·rw [if_neg c4] at H
     have c4b0 : decide (x5_1 < (l0.length : Int)) = false := decide_eq_false c4
     clear c4
     obtain rfl := Option.some.inj H
     go_wp2
     repeat (go_quiet (fail); try go_wp2)
     go_ret
     exact ⟨by first | rfl | (simp; done) | (simp [*]; done), by repeat (first | exact Drawn0.refl _ | apply Drawn0.step)⟩
 ·rw [if_neg c3] at H
  have c3b0 : ((l0.length : Int) == (l1.length : Int)) = false := beq_eq_false_iff_ne.mpr c3
  have c3b1 : ((l0.length : Int) != (l1.length : Int)) = true := bne_iff_ne.mpr c3
  have c3b2 : (l0.length == l1.length) = false := by first | simpa using c3 | (simp at c3 ⊢; omega)
  obtain rfl := Option.some.inj H
  go_enter Try.func30, Try.ntmps30
  go_wp2
  repeat (go_quiet (fail); try go_wp2)
  go_ret
  exact ⟨by first | rfl | (simp; done) | (simp [*]; done), by repeat (first | exact Drawn0.refl _ | apply Drawn0.step)⟩

/-! ### salvorref16_SameMap: function 16 -/
def salvorref16_SameMap.f (k : Nat) (a0_0 : Int) (a0_1 : Int) (a0_2 : Int) (l0_3 : List (S33)) (a1_0 : Int) (a1_1 : Int) (a1_2 : Int) (l1_3 : List (S33)) : Option (Bool) := if a0_0 = a1_0 then (if a0_1 = a1_1 then (if a0_2 = a1_2 then ((salvorref16_SameRegions.f k l0_3 l1_3).bind fun t313 => (some t313)) else (some false)) else (some false)) else (some false)
theorem salvorref16_SameMap.mono : ∀ a0 a1 a2 a3 a4 a5 a6 a7 k, LeO (salvorref16_SameMap.f k a0 a1 a2 a3 a4 a5 a6 a7) (salvorref16_SameMap.f (k + 1) a0 a1 a2 a3 a4 a5 a6 a7) := by
 intro a0 a1 a2 a3 a4 a5 a6 a7 k
 unfold salvorref16_SameMap.f
 repeat' first
   | (with_reducible exact salvorref16_SameRegions.mono _ _ _)
   | (with_reducible exact LeO.refl _)
   | (with_reducible exact LeO.none _)
   | (with_reducible refine LeO.ite ?_ ?_)
   | (with_reducible refine LeO.bind ?_ (fun _ => ?_))
   | exact salvorref16_SameRegions.mono _ _ _
   | exact LeO.none _
   | refine LeO.ite ?_ ?_
   | refine LeO.bind ?_ (fun _ => ?_)
set_option maxHeartbeats 8000000 in
set_option maxRecDepth 100000 in
theorem salvorref16_SameMap.calls (k : Nat) (a0_0 : Int) (a0_1 : Int) (a0_2 : Int) (A0_3 : Option Addr) (c0_3 : Nat) (l0_3 : List (S33)) (a1_0 : Int) (a1_1 : Int) (a1_2 : Int) (A1_3 : Option Addr) (c1_3 : Nat) (l1_3 : List (S33)) (r : Bool) (w : World) (hr0_3 : Kd.C k33 w A0_3 l0_3.length l0_3) (hc0_3 : l0_3.length ≤ c0_3) (hr1_3 : Kd.C k33 w A1_3 l1_3.length l1_3) (hc1_3 : l1_3.length ≤ c1_3) (h : salvorref16_SameMap.f k a0_0 a0_1 a0_2 l0_3 a1_0 a1_1 a1_2 l1_3 = some r) :
  Calls Try.prog 16 #[.agg #[.int .i64 a0_0, .int .i64 a0_1, .int .u8 a0_2, .slice A0_3 l0_3.length c0_3], .agg #[.int .i64 a1_0, .int .i64 a1_1, .int .u8 a1_2, .slice A1_3 l1_3.length c1_3]] w fun e w' => e = .returned (.bool r) ∧ Below w.heap.size w w' := by
 have hu26 := Try.underlying26
 have HR0_3 := Aside0.mk hr0_3
 have HC0_3 := Aside0.mk hc0_3
 clear hr0_3 hc0_3
 have HR1_3 := Aside0.mk hr1_3
 have HC1_3 := Aside0.mk hc1_3
 clear hr1_3 hc1_3
 have HB := Aside0.mk (Below.refl w.heap.size w)
 have H : (if a0_0 = a1_0 then (if a0_1 = a1_1 then (if a0_2 = a1_2 then ((salvorref16_SameRegions.f k l0_3 l1_3).bind fun t313 => (some t313)) else (some false)) else (some false)) else (some false)) = some r := h
 clear h
 by_cases c3 : a0_0 = a1_0
 ·rw [if_pos c3] at H
  have c3b0 : (a0_0 == a1_0) = true := beq_iff_eq.mpr c3
  have c3b1 : (a0_0 != a1_0) = false := bne_eq_false_iff_eq.mpr c3
  clear c3
  by_cases c4 : a0_1 = a1_1
  ·rw [if_pos c4] at H
   have c4b0 : (a0_1 == a1_1) = true := beq_iff_eq.mpr c4
   have c4b1 : (a0_1 != a1_1) = false := bne_eq_false_iff_eq.mpr c4
   clear c4
   by_cases c5 : a0_2 = a1_2
   ·rw [if_pos c5] at H
    have c5b0 : (a0_2 == a1_2) = true := beq_iff_eq.mpr c5
    have c5b1 : (a0_2 != a1_2) = false := bne_eq_false_iff_eq.mpr c5
    clear c5
    replace H := Option.bind_eq_some_iff.mp H
    obtain ⟨t313, A60, H⟩ := H
    replace H : (some t313) = some r := H
    have A6 := Aside0.mk A60
    clear A60
    obtain rfl := Option.some.inj H
    go_enter Try.func16, Try.ntmps16
    go_wp2_with (first | ((with_reducible refine gate_dst (N := 2) rfl ?_); refine box_e 2 #[.int .i64 a0_0, .int .i64 a0_1, .int .u8 a0_2, .slice A0_3 l0_3.length c0_3] 26 ?_; intro gb311 hg w7 hbox hb; have BK311 := Aside0.mk hbox; have GW311 := bg_ HB hg; have GE311 := bg_ HB hg; replace HB := bs_ HB hb; clear hb hbox hg) | ((with_reducible refine gate_dst (N := 3) rfl ?_); refine box_e 3 #[.int .i64 a1_0, .int .i64 a1_1, .int .u8 a1_2, .slice A1_3 l1_3.length c1_3] 26 ?_; intro gb312 hg w8 hbox hb; have BK312 := Aside0.mk hbox; have GW312 := bg_ HB hg; have GE312 := bg_ HB hg; have NB311_312 := bn_ BK311 hg; have NB312_311 := bm_ BK311 hg; replace BK311 := bb_ BK311 hb; replace HB := bs_ HB hb; clear hb hbox hg; have hnb9 := NB311_312.out; have hnc9 := NB312_311.out; obtain ⟨hcz10_0, hcz10_1, hcz10_2, hcz10_3, hfz10_0, hfz10_1, hfz10_2, hfz10_3⟩ := c4_ BK311; obtain ⟨hcz11_0, hcz11_1, hcz11_2, hcz11_3, hfz11_0, hfz11_1, hfz11_2, hfz11_3⟩ := c4_ BK312) | (go_at_call 30; (with_reducible refine (salvorref16_SameRegions.calls k _ _ l0_3 _ _ l1_3 t313 _ ?side1 ?side2 ?side3 ?side4 A6.out).mono ?_); (case side1 => exact cb_ HR0_3 HB); (case side2 => exact HC0_3.out); (case side3 => exact cb_ HR1_3 HB); (case side4 => exact HC1_3.out); rintro e w' ⟨rfl, ⟨nd, rfl⟩⟩))
    go_ret
    exact ⟨by first | rfl | (simp [errW_none, errW_some] <;> rfl) | (simp [*, errW_none, errW_some] <;> rfl), bh_ HB⟩
   ·rw [if_neg c5] at H
    have c5b0 : (a0_2 == a1_2) = false := beq_eq_false_iff_ne.mpr c5
    have c5b1 : (a0_2 != a1_2) = true := bne_iff_ne.mpr c5
    obtain rfl := Option.some.inj H
    go_enter Try.func16, Try.ntmps16
    go_wp2_with (first | ((with_reducible refine gate_dst (N := 2) rfl ?_); refine box_e 2 #[.int .i64 a0_0, .int .i64 a0_1, .int .u8 a0_2, .slice A0_3 l0_3.length c0_3] 26 ?_; intro gb311 hg w12 hbox hb; have BK311 := Aside0.mk hbox; have GW311 := bg_ HB hg; have GE311 := bg_ HB hg; replace HB := bs_ HB hb; clear hb hbox hg) | ((with_reducible refine gate_dst (N := 3) rfl ?_); refine box_e 3 #[.int .i64 a1_0, .int .i64 a1_1, .int .u8 a1_2, .slice A1_3 l1_3.length c1_3] 26 ?_; intro gb312 hg w13 hbox hb; have BK312 := Aside0.mk hbox; have GW312 := bg_ HB hg; have GE312 := bg_ HB hg; have NB311_312 := bn_ BK311 hg; have NB312_311 := bm_ BK311 hg; replace BK311 := bb_ BK311 hb; replace HB := bs_ HB hb; clear hb hbox hg; have hnb14 := NB311_312.out; have hnc14 := NB312_311.out; obtain ⟨hcz15_0, hcz15_1, hcz15_2, hcz15_3, hfz15_0, hfz15_1, hfz15_2, hfz15_3⟩ := c4_ BK311; obtain ⟨hcz16_0, hcz16_1, hcz16_2, hcz16_3, hfz16_0, hfz16_1, hfz16_2, hfz16_3⟩ := c4_ BK312))
    go_ret
    exact ⟨by first | rfl | (simp [errW_none, errW_some] <;> rfl) | (simp [*, errW_none, errW_some] <;> rfl), bh_ HB⟩
  ·rw [if_neg c4] at H
   have c4b0 : (a0_1 == a1_1) = false := beq_eq_false_iff_ne.mpr c4
   have c4b1 : (a0_1 != a1_1) = true := bne_iff_ne.mpr c4
   obtain rfl := Option.some.inj H
   go_enter Try.func16, Try.ntmps16
   go_wp2_with (first | ((with_reducible refine gate_dst (N := 2) rfl ?_); refine box_e 2 #[.int .i64 a0_0, .int .i64 a0_1, .int .u8 a0_2, .slice A0_3 l0_3.length c0_3] 26 ?_; intro gb311 hg w17 hbox hb; have BK311 := Aside0.mk hbox; have GW311 := bg_ HB hg; have GE311 := bg_ HB hg; replace HB := bs_ HB hb; clear hb hbox hg) | ((with_reducible refine gate_dst (N := 3) rfl ?_); refine box_e 3 #[.int .i64 a1_0, .int .i64 a1_1, .int .u8 a1_2, .slice A1_3 l1_3.length c1_3] 26 ?_; intro gb312 hg w18 hbox hb; have BK312 := Aside0.mk hbox; have GW312 := bg_ HB hg; have GE312 := bg_ HB hg; have NB311_312 := bn_ BK311 hg; have NB312_311 := bm_ BK311 hg; replace BK311 := bb_ BK311 hb; replace HB := bs_ HB hb; clear hb hbox hg; have hnb19 := NB311_312.out; have hnc19 := NB312_311.out; obtain ⟨hcz20_0, hcz20_1, hcz20_2, hcz20_3, hfz20_0, hfz20_1, hfz20_2, hfz20_3⟩ := c4_ BK311; obtain ⟨hcz21_0, hcz21_1, hcz21_2, hcz21_3, hfz21_0, hfz21_1, hfz21_2, hfz21_3⟩ := c4_ BK312))
   go_ret
   exact ⟨by first | rfl | (simp [errW_none, errW_some] <;> rfl) | (simp [*, errW_none, errW_some] <;> rfl), bh_ HB⟩
 ·rw [if_neg c3] at H
  have c3b0 : (a0_0 == a1_0) = false := beq_eq_false_iff_ne.mpr c3
  have c3b1 : (a0_0 != a1_0) = true := bne_iff_ne.mpr c3
  obtain rfl := Option.some.inj H
  go_enter Try.func16, Try.ntmps16
  go_wp2_with (first | ((with_reducible refine gate_dst (N := 2) rfl ?_); refine box_e 2 #[.int .i64 a0_0, .int .i64 a0_1, .int .u8 a0_2, .slice A0_3 l0_3.length c0_3] 26 ?_; intro gb311 hg w22 hbox hb; have BK311 := Aside0.mk hbox; have GW311 := bg_ HB hg; have GE311 := bg_ HB hg; replace HB := bs_ HB hb; clear hb hbox hg) | ((with_reducible refine gate_dst (N := 3) rfl ?_); refine box_e 3 #[.int .i64 a1_0, .int .i64 a1_1, .int .u8 a1_2, .slice A1_3 l1_3.length c1_3] 26 ?_; intro gb312 hg w23 hbox hb; have BK312 := Aside0.mk hbox; have GW312 := bg_ HB hg; have GE312 := bg_ HB hg; have NB311_312 := bn_ BK311 hg; have NB312_311 := bm_ BK311 hg; replace BK311 := bb_ BK311 hb; replace HB := bs_ HB hb; clear hb hbox hg; have hnb24 := NB311_312.out; have hnc24 := NB312_311.out; obtain ⟨hcz25_0, hcz25_1, hcz25_2, hcz25_3, hfz25_0, hfz25_1, hfz25_2, hfz25_3⟩ := c4_ BK311; obtain ⟨hcz26_0, hcz26_1, hcz26_2, hcz26_3, hfz26_0, hfz26_1, hfz26_2, hfz26_3⟩ := c4_ BK312))
  go_ret
  exact ⟨by first | rfl | (simp [errW_none, errW_some] <;> rfl) | (simp [*, errW_none, errW_some] <;> rfl), bh_ HB⟩

/-! ### salvorref16_MayOpts: function 25 -/
def salvorref16_MayOpts.f (a0_0 : Int) (a0_1 : Int) (a0_2 : Bool) : Option (Bool) := if a0_0 ≥ 1 then (if a0_0 ≤ 512 then (if a0_1 ≥ 0 then (some (decide (a0_1 ≤ 20))) else (some false)) else (some false)) else (some false)
set_option maxHeartbeats 8000000 in
set_option maxRecDepth 100000 in
theorem salvorref16_MayOpts.calls (a0_0 : Int) (a0_1 : Int) (a0_2 : Bool) (r : Bool) (w : World) (h : salvorref16_MayOpts.f a0_0 a0_1 a0_2 = some r) :
  Calls Try.prog 25 #[.agg #[.int .i64 a0_0, .int .i64 a0_1, .bool a0_2]] w fun e w' => e = .returned (.bool r) ∧ Below w.heap.size w w' := by
 have hu23 := Try.underlying23
 have HB := Aside0.mk (Below.refl w.heap.size w)
 have H : (if a0_0 ≥ 1 then (if a0_0 ≤ 512 then (if a0_1 ≥ 0 then (some (decide (a0_1 ≤ 20))) else (some false)) else (some false)) else (some false)) = some r := h
 clear h
 by_cases c2 : a0_0 ≥ 1
 ·rw [if_pos c2] at H
  have c2b0 : decide (1 ≤ a0_0) = true := decide_eq_true c2
  clear c2
  by_cases c3 : a0_0 ≤ 512
  ·rw [if_pos c3] at H
   have c3b0 : decide (a0_0 ≤ 512) = true := decide_eq_true c3
   clear c3
   by_cases c4 : a0_1 ≥ 0
   ·rw [if_pos c4] at H
    have c4b0 : decide (0 ≤ a0_1) = true := decide_eq_true c4
    clear c4
    obtain rfl := Option.some.inj H
    go_enter Try.func25, Try.ntmps25
    go_wp2_with (first | ((with_reducible refine gate_dst (N := 1) rfl ?_); refine box_e 1 #[.int .i64 a0_0, .int .i64 a0_1, .bool a0_2] 23 ?_; intro gb314 hg w5 hbox hb; have BK314 := Aside0.mk hbox; have GW314 := bg_ HB hg; have GE314 := bg_ HB hg; replace HB := bs_ HB hb; clear hb hbox hg; obtain ⟨hcz6_0, hcz6_1, hcz6_2, hfz6_0, hfz6_1, hfz6_2⟩ := c3_ BK314))
    go_ret
    exact ⟨by first | rfl | (simp [errW_none, errW_some] <;> rfl) | (simp [*, errW_none, errW_some] <;> rfl), bh_ HB⟩
   ·rw [if_neg c4] at H
    have c4b0 : decide (0 ≤ a0_1) = false := decide_eq_false c4
    clear c4
    obtain rfl := Option.some.inj H
    go_enter Try.func25, Try.ntmps25
    go_wp2_with (first | ((with_reducible refine gate_dst (N := 1) rfl ?_); refine box_e 1 #[.int .i64 a0_0, .int .i64 a0_1, .bool a0_2] 23 ?_; intro gb314 hg w7 hbox hb; have BK314 := Aside0.mk hbox; have GW314 := bg_ HB hg; have GE314 := bg_ HB hg; replace HB := bs_ HB hb; clear hb hbox hg; obtain ⟨hcz8_0, hcz8_1, hcz8_2, hfz8_0, hfz8_1, hfz8_2⟩ := c3_ BK314))
    go_ret
    exact ⟨by first | rfl | (simp [errW_none, errW_some] <;> rfl) | (simp [*, errW_none, errW_some] <;> rfl), bh_ HB⟩
  ·rw [if_neg c3] at H
   have c3b0 : decide (a0_0 ≤ 512) = false := decide_eq_false c3
   clear c3
   obtain rfl := Option.some.inj H
   go_enter Try.func25, Try.ntmps25
   go_wp2_with (first | ((with_reducible refine gate_dst (N := 1) rfl ?_); refine box_e 1 #[.int .i64 a0_0, .int .i64 a0_1, .bool a0_2] 23 ?_; intro gb314 hg w9 hbox hb; have BK314 := Aside0.mk hbox; have GW314 := bg_ HB hg; have GE314 := bg_ HB hg; replace HB := bs_ HB hb; clear hb hbox hg; obtain ⟨hcz10_0, hcz10_1, hcz10_2, hfz10_0, hfz10_1, hfz10_2⟩ := c3_ BK314))
   go_ret
   exact ⟨by first | rfl | (simp [errW_none, errW_some] <;> rfl) | (simp [*, errW_none, errW_some] <;> rfl), bh_ HB⟩
 ·rw [if_neg c2] at H
  have c2b0 : decide (1 ≤ a0_0) = false := decide_eq_false c2
  clear c2
  obtain rfl := Option.some.inj H
  go_enter Try.func25, Try.ntmps25
  go_wp2_with (first | ((with_reducible refine gate_dst (N := 1) rfl ?_); refine box_e 1 #[.int .i64 a0_0, .int .i64 a0_1, .bool a0_2] 23 ?_; intro gb314 hg w11 hbox hb; have BK314 := Aside0.mk hbox; have GW314 := bg_ HB hg; have GE314 := bg_ HB hg; replace HB := bs_ HB hb; clear hb hbox hg; obtain ⟨hcz12_0, hcz12_1, hcz12_2, hfz12_0, hfz12_1, hfz12_2⟩ := c3_ BK314))
  go_ret
  exact ⟨by first | rfl | (simp [errW_none, errW_some] <;> rfl) | (simp [*, errW_none, errW_some] <;> rfl), bh_ HB⟩

end Go.Proofs.Ytnoilinjlelpaaa.P
