import Derived.Test.YtbmhfnncagncmaaGreatDoorPx15
namespace Go.Proofs.YtbmhfnncagncmaaGreatDoor.P
open Go.RowKit Go.Proofs.YtbmhfnncagncmaaGreatDoorW.PrintWords Go.Proofs.YtbmhfnncagncmaaGreatDoorW.PrintLast Go.Proofs.YtbmhfnncagncmaaGreatDoorW.PrintMore
attribute [local go_sem] max2_int min2_int max_two min_two max_three min_three max_four min_four
set_option linter.unusedVariables false
set_option linter.unusedSimpArgs false
def salvorref6_Find.l0 : Nat → List (S68) → ByteArray → Int → Option (ByteArray × Bool)
 | 0, _, _, _ => none
 | k + 1, x0, x1, x6 => if x6 ≥ 0 then (if 0 ≤ x6 then (if x6 < (x0.length : Int) then (if ((rd_T68 x0 x6).f0).toList = x1.toList then (some ((rd_T68 x0 x6).f1, true)) else (salvorref6_Find.l0 k x0 x1 (wrap64 (x6 - 1)))) else (none)) else (none)) else (some ((⟨#[]⟩ : ByteArray), false))
def salvorref6_Find.f (k : Nat) (l0 : List (S68)) (a1 : ByteArray) : Option (ByteArray × Bool) := salvorref6_Find.l0 k l0 a1 (wrap64 ((l0.length : Int) - 1))
theorem salvorref6_Find.mono_l : ∀ k, (∀ y0 y1 y2, LeO (salvorref6_Find.l0 k y0 y1 y2) (salvorref6_Find.l0 (k + 1) y0 y1 y2))
 | 0 => fun _ _ _ r h => by simp [salvorref6_Find.l0] at h
 | k + 1 => by
  have ih0 := salvorref6_Find.mono_l k
  ·intro y0 y1 y2
   unfold salvorref6_Find.l0
   repeat' first
   | (with_reducible exact ih0 _ _ _)
   | (with_reducible exact LeO.refl _)
   | (with_reducible exact LeO.none _)
   | (with_reducible refine LeO.ite ?_ ?_)
   | (with_reducible refine LeO.bind ?_ (fun _ => ?_))
   | refine LeO.bind ?_ (fun _ => ?_)
theorem salvorref6_Find.mono : ∀ a0 a1 k, LeO (salvorref6_Find.f k a0 a1) (salvorref6_Find.f (k + 1) a0 a1) := by
 intro a0 a1 k
 have ih0 := salvorref6_Find.mono_l k
 unfold salvorref6_Find.f
 repeat' first
   | (with_reducible exact ih0 _ _ _)
   | (with_reducible exact LeO.refl _)
   | (with_reducible exact LeO.none _)
   | (with_reducible refine LeO.ite ?_ ?_)
   | (with_reducible refine LeO.bind ?_ (fun _ => ?_))
   | refine LeO.bind ?_ (fun _ => ?_)
set_option maxHeartbeats 8000000 in
set_option maxRecDepth 100000 in
theorem salvorref6_Find.calls (k : Nat) (A0 : Option Addr) (c0 : Nat) (l0 : List (S68)) (a1 r1 : ByteArray) (r2 : Bool) (w : World) (hr0 : Kd.C k68 w A0 l0.length l0) (hc0 : l0.length ≤ c0) (h : salvorref6_Find.f k l0 a1 = some (r1, r2)) :
  Calls Tryz.prog 20 #[.slice A0 l0.length c0, .string a1] w fun e w' => e = .returned (.tuple #[.string r1, .bool r2]) ∧ Drawn0 w w' := by
 have HR0 := Aside0.mk hr0
 have HC0 := Aside0.mk hc0
 clear hr0 hc0
 have H : (salvorref6_Find.l0 k l0 a1 (wrap64 ((l0.length : Int) - 1))) = some (r1, r2) := h
 clear h
 have H' := Aside0.mk H
 clear H
 go_enter Tryz.func20, Tryz.ntmps20
 go_wp2
 go_loopg [6] k (fun kq v6 w' => ∃ (x6_1 : Int), v6 = .int .i64 x6_1 ∧ Aside0 (salvorref6_Find.l0 kq l0 a1 x6_1 = some (r1, r2)) ∧ Aside0 (kq ≤ k) ∧ Drawn0 w w')
 case atStart => exact ⟨(wrap64 ((l0.length : Int) - 1)), (by first | rfl | (simp; done) | (simp [*]; done)), H', ⟨Nat.le_refl _⟩, by repeat (first | exact Drawn0.refl _ | apply Drawn0.step)⟩
 case round =>
  clear H'
  try clear c2
  try clear p2
  obtain ⟨x6_1, rfl, HA, HK1, ⟨m1, rfl⟩⟩ := hrel
  cases gk with
  | zero => exact absurd HA.out (by simp [salvorref6_Find.l0])
  | succ k1 =>
   have H := HA.out
   clear HA
   simp only [salvorref6_Find.l0] at H
   by_cases c3 : x6_1 ≥ 0
   ·rw [if_pos c3] at H
    have c3b0 : decide (0 ≤ x6_1) = true := decide_eq_true c3
    clear c3
    by_cases c4 : 0 ≤ x6_1
    ·rw [if_pos c4] at H
     have c4b0 : decide (0 ≤ x6_1) = true := decide_eq_true c4
     clear c4
     by_cases c5 : x6_1 < (l0.length : Int)
     ·rw [if_pos c5] at H
      have c5b0 : decide (x6_1 < (l0.length : Int)) = true := decide_eq_true c5
      clear c5
      by_cases c6 : ((rd_T68 l0 x6_1).f0).toList = a1.toList
      ·rw [if_pos c6] at H
       have c6b0 : (((rd_T68 l0 x6_1).f0).toList == a1.toList) = true := beq_iff_eq.mpr c6
       have c6b1 : (((rd_T68 l0 x6_1).f0).toList != a1.toList) = false := bne_eq_false_iff_eq.mpr c6
       clear c6
       simp only [Option.some.injEq, Prod.mk.injEq] at H
       obtain ⟨rfl, rfl⟩ := H
       have p193 : 0 ≤ (x6_1 : Int) := of_decide_eq_true (by first | (with_reducible assumption) | assumption)
       have q193 : x6_1 < (l0.length : Int) := of_decide_eq_true (by first | (with_reducible assumption) | assumption)
       obtain ⟨ad193, e193, hx193_0, hx193_1⟩ := at_T68 HR0.out x6_1 p193 q193
       cases e193
       replace p193 := eq_true p193
       replace q193 := eq_true q193
       have p194 : 0 ≤ (x6_1 : Int) := of_decide_eq_true (by first | (with_reducible assumption) | assumption)
       have q194 : x6_1 < (l0.length : Int) := of_decide_eq_true (by first | (with_reducible assumption) | assumption)
       obtain ⟨ad194, e194, hx194_0, hx194_1⟩ := at_T68 HR0.out x6_1 p194 q194
       obtain rfl : ad193 = ad194 := (by injection e194)
       replace p194 := eq_true p194
       replace q194 := eq_true q194
       go_wp2
       go_ret2
       exact ⟨by first | rfl | (simp; done) | (simp [*]; done), by repeat (first | exact Drawn0.refl _ | apply Drawn0.step)⟩
      ·rw [if_neg c6] at H
       have c6b0 : (((rd_T68 l0 x6_1).f0).toList == a1.toList) = false := beq_eq_false_iff_ne.mpr c6
       have c6b1 : (((rd_T68 l0 x6_1).f0).toList != a1.toList) = true := bne_iff_ne.mpr c6
       have H' := Aside0.mk H
       clear H
       have p193 : 0 ≤ (x6_1 : Int) := of_decide_eq_true (by first | (with_reducible assumption) | assumption)
       have q193 : x6_1 < (l0.length : Int) := of_decide_eq_true (by first | (with_reducible assumption) | assumption)
       obtain ⟨ad193, e193, hx193_0, hx193_1⟩ := at_T68 HR0.out x6_1 p193 q193
       cases e193
       replace p193 := eq_true p193
       replace q193 := eq_true q193
       go_wp2
       go_roundg k1
       case measure => have := HK1.out; omega
       case rel => exact ⟨(wrap64 (x6_1 - 1)), (by first | rfl | (simp; done) | (simp [*]; done)), H', ⟨by have := HK1.out; omega⟩, by repeat (first | exact Drawn0.refl _ | apply Drawn0.step)⟩
     ·rw [if_neg c5] at H
      exact absurd H (by simp)
    ·rw [if_neg c4] at H
     exact absurd H (by simp)
   ·rw [if_neg c3] at H
    have c3b0 : decide (0 ≤ x6_1) = false := decide_eq_false c3
    clear c3
    simp only [Option.some.injEq, Prod.mk.injEq] at H
    obtain ⟨rfl, rfl⟩ := H
    go_wp2
    go_ret2
    exact ⟨by first | rfl | (simp; done) | (simp [*]; done), by repeat (first | exact Drawn0.refl _ | apply Drawn0.step)⟩
def salvorref6_has.f (k : Nat) (l0 : List (S68)) (a1 : ByteArray) : Option (Bool) := (salvorref6_Find.f k l0 a1).bind fun bt195 => (some bt195.2)
theorem salvorref6_has.mono : ∀ a0 a1 k, LeO (salvorref6_has.f k a0 a1) (salvorref6_has.f (k + 1) a0 a1) := by
  intro a0 a1 k
  unfold salvorref6_has.f
  repeat' first
      | (with_reducible exact salvorref6_Find.mono _ _ _)
      | (with_reducible exact LeO.refl _)
      | (with_reducible exact LeO.none _)
      | (with_reducible refine LeO.ite ?_ ?_)
      | (with_reducible refine LeO.bind ?_ (fun _ => ?_))
      | refine LeO.bind ?_ (fun _ => ?_)
set_option maxHeartbeats 8000000 in
set_option maxRecDepth 100000 in
theorem salvorref6_has.calls (k : Nat) (A0 : Option Addr) (c0 : Nat) (l0 : List (S68)) (a1 : ByteArray) (r : Bool) (w : World) (hr0 : Kd.C k68 w A0 l0.length l0) (hc0 : l0.length ≤ c0) (h : salvorref6_has.f k l0 a1 = some r) :
    Calls Tryz.prog 46 #[.slice A0 l0.length c0, .string a1] w fun e w' => e = .returned (.bool r) ∧ Drawn0 w w' := by
  have HR0 := Aside0.mk hr0
  have HC0 := Aside0.mk hc0
  clear hr0 hc0
  have H : ((salvorref6_Find.f k l0 a1).bind fun bt195 => (some bt195.2)) = some r := h
  clear h
  replace H := Option.bind_eq_some_iff.mp H
  obtain ⟨⟨t195, t196⟩, A30, H⟩ := H
  replace H : (some t196) = some r := H
  have A3 := Aside0.mk A30
  clear A30
  obtain rfl := Option.some.inj H
  go_enter Tryz.func46, Tryz.ntmps46
  go_wp2_with (first | ((with_reducible refine gate_callee (f := 20) rfl ?_); refine gl_ (some 10) rfl rfl Tryz.func20 (by kernel_rfl) rfl #[.slice A0 l0.length c0, .string a1] rfl ?_; (with_reducible refine (salvorref6_Find.calls k _ _ l0 a1 t195 t196 _ ?side1 ?side2 A3.out).mono ?_); (case side1 => repeat (first | exact HR0.out | (with_reducible refine Kd.C_alloc ?_ _) | (with_reducible refine Kd.C_drewN ?_ _) | (with_reducible refine Kd.C_drew ?_))); (case side2 => exact HC0.out); rintro e w' ⟨rfl, ⟨nd, rfl⟩⟩; refine ⟨_, rfl, ?_⟩))
  go_ret
  exact ⟨by first | rfl | (simp; done) | (simp [*]; done), by repeat (first | exact Drawn0.refl _ | apply Drawn0.step)⟩
def salvorref6_Operands.l0 : Nat → List ByteArray → List (S68) → Int → Option ((List (S68)) × Bool)
 | 0, _, _, _ => none
 | k + 1, x0, x4, x5 => if x5 < (x0.length : Int) then (if 0 ≤ x5 then ((salvorref6_cutAt.f k (rdOf ByteArray.empty x0 x5) 61).bind fun bt198 => (if bt198.2.2 = true then ((salvorref6_letters.f k bt198.1).bind fun t201 => (if t201 = true then ((salvorref6_has.f k x4 bt198.1).bind fun t202 => (if t202 = true then (if bt198.1.toList = ([99, 111, 110, 118] : List UInt8) then (if x4.length < 4398046511104 then (salvorref6_Operands.l0 k x0 (x4 ++ [(⟨bt198.1, bt198.2.1⟩ : S68)]) (wrap64 (x5 + 1))) else (none)) else (if bt198.1.toList = ([105, 102, 108, 97, 103] : List UInt8) then (if x4.length < 4398046511104 then (salvorref6_Operands.l0 k x0 (x4 ++ [(⟨bt198.1, bt198.2.1⟩ : S68)]) (wrap64 (x5 + 1))) else (none)) else (some (([] : List (S68)), false)))) else (if x4.length < 4398046511104 then (salvorref6_Operands.l0 k x0 (x4 ++ [(⟨bt198.1, bt198.2.1⟩ : S68)]) (wrap64 (x5 + 1))) else (none)))) else (some (([] : List (S68)), false)))) else (some (([] : List (S68)), false)))) else (none)) else (some (x4, true))
def salvorref6_Operands.f (k : Nat) (l0 : List ByteArray) : Option ((List (S68)) × Bool) := if (l0.length : Int) > 40 then (some (([] : List (S68)), false)) else (salvorref6_Operands.l0 k l0 ([] : List (S68)) 0)
theorem salvorref6_Operands.mono_l : ∀ k, (∀ y0 y1 y2, LeO (salvorref6_Operands.l0 k y0 y1 y2) (salvorref6_Operands.l0 (k + 1) y0 y1 y2))
 | 0 => fun _ _ _ r h => by simp [salvorref6_Operands.l0] at h
 | k + 1 => by
  have ih0 := salvorref6_Operands.mono_l k
  ·intro y0 y1 y2
   unfold salvorref6_Operands.l0
   repeat' first
   | (with_reducible exact ih0 _ _ _)
   | (with_reducible exact salvorref6_cutAt.mono _ _ _)
   | (with_reducible exact salvorref6_has.mono _ _ _)
   | (with_reducible exact salvorref6_letters.mono _ _)
   | (with_reducible exact LeO.refl _)
   | (with_reducible exact LeO.none _)
   | (with_reducible refine LeO.ite ?_ ?_)
   | (with_reducible refine LeO.bind ?_ (fun _ => ?_))
   | refine LeO.bind ?_ (fun _ => ?_)
theorem salvorref6_Operands.mono : ∀ a0 k, LeO (salvorref6_Operands.f k a0) (salvorref6_Operands.f (k + 1) a0) := by
 intro a0 k
 have ih0 := salvorref6_Operands.mono_l k
 unfold salvorref6_Operands.f
 repeat' first
   | (with_reducible exact ih0 _ _ _)
   | (with_reducible exact salvorref6_cutAt.mono _ _ _)
   | (with_reducible exact salvorref6_has.mono _ _ _)
   | (with_reducible exact salvorref6_letters.mono _ _)
   | (with_reducible exact LeO.refl _)
   | (with_reducible exact LeO.none _)
   | (with_reducible refine LeO.ite ?_ ?_)
   | (with_reducible refine LeO.bind ?_ (fun _ => ?_))
   | refine LeO.bind ?_ (fun _ => ?_)
set_option maxHeartbeats 8000000 in
set_option maxRecDepth 100000 in
theorem salvorref6_Operands.calls (k : Nat) (A0 : Option Addr) (c0 : Nat) (l0 : List ByteArray) (r1 : List (S68)) (r2 : Bool) (w : World) (hr0 : Kd.C Kd.string w A0 l0.length l0) (hc0 : l0.length ≤ c0) (h : salvorref6_Operands.f k l0 = some (r1, r2)) :
  Calls Tryz.prog 18 #[.slice A0 l0.length c0] w fun e w' => ∃ v0_ : Value, e = .returned (.tuple #[v0_, .bool r2]) ∧ Kd.R k68 68 w' w.heap.size (fun _ => True) v0_ r1 ∧ Below w.heap.size w w' := by
 have hu68 := Tryz.underlying68
 have HR0 := Aside0.mk hr0
 have HC0 := Aside0.mk hc0
 clear hr0 hc0
 have HB := Aside0.mk (Below.refl w.heap.size w)
 have H : (if (l0.length : Int) > 40 then (some (([] : List (S68)), false)) else (salvorref6_Operands.l0 k l0 ([] : List (S68)) 0)) = some (r1, r2) := h
 clear h
 by_cases c2 : (l0.length : Int) > 40
 ·rw [if_pos c2] at H
  have c2b0 : decide (40 < (l0.length : Int)) = true := decide_eq_true c2
  have c2b1 : decide (40 < l0.length) = true := decide_eq_true (by omega)
  clear c2
  simp only [Option.some.injEq, Prod.mk.injEq] at H
  obtain ⟨rfl, rfl⟩ := H
  go_enter Tryz.func18, Tryz.ntmps18
  go_wp2
  go_ret2
  exact ⟨_, by first | rfl | (simp [errW_none, errW_some] <;> rfl) | (simp [*, errW_none, errW_some] <;> rfl), by first | exact Kd.R_nil _ _ _ _ _ | exact Kd.N_nil _ _ _ _ _ | exact Kd.V_nil _ _ _ _ _ | exact Kd.Q_nil _ _ _ _ _ | exact Kd.S_nil _ _ _ _ _, bh_ HB⟩
 ·rw [if_neg c2] at H
  have c2b0 : decide (40 < (l0.length : Int)) = false := decide_eq_false c2
  have c2b1 : decide (40 < l0.length) = false := decide_eq_false (by omega)
  clear c2
  have H' := Aside0.mk H
  clear H
  go_enter Tryz.func18, Tryz.ntmps18
  go_wp2
  go_loopg [4, 5] k (fun kq v4 v5 w' => ∃ (x4_1 : List (S68)) (x5_1 : Int), v5 = .int .i64 x5_1 ∧ Aside0 (salvorref6_Operands.l0 kq l0 x4_1 x5_1 = some (r1, r2)) ∧ Aside0 (kq ≤ k) ∧ Aside0 (Kd.R k68 68 w' w.heap.size (fun _ => True) v4 x4_1) ∧ Aside0 (Below w.heap.size w w'))
  case atStart => exact ⟨(([] : List (S68))), (0), (by first | rfl | (simp; done) | (simp [*]; done)), H', ⟨Nat.le_refl _⟩, ⟨by first | exact Kd.R_nil _ _ _ _ _ | exact Kd.N_nil _ _ _ _ _ | exact Kd.V_nil _ _ _ _ _ | exact Kd.Q_nil _ _ _ _ _ | exact Kd.S_nil _ _ _ _ _⟩, ⟨bh_ HB⟩⟩
  case round =>
   clear H'
   try clear c1
   try clear c2
   try clear c2b0
   try clear c2b1
   try clear p2
   obtain ⟨x4_1, x5_1, rfl, HA, HK1, HO_4, HB⟩ := hrel
   cases gk with
   | zero => exact absurd HA.out (by simp [salvorref6_Operands.l0])
   | succ k1 =>
    have H := HA.out
    clear HA
    simp only [salvorref6_Operands.l0] at H
    by_cases c3 : x5_1 < (l0.length : Int)
    ·rw [if_pos c3] at H
     have c3b0 : decide (x5_1 < (l0.length : Int)) = true := decide_eq_true c3
     clear c3
     by_cases c4 : 0 ≤ x5_1
     ·rw [if_pos c4] at H
      have c4b0 : decide (0 ≤ x5_1) = true := decide_eq_true c4
      clear c4
      replace H := Option.bind_eq_some_iff.mp H
      obtain ⟨⟨t198, t199, t200⟩, A50, H⟩ := H
      replace H : (if t200 = true then ((salvorref6_letters.f k1 t198).bind fun t201 => (if t201 = true then ((salvorref6_has.f k1 x4_1 t198).bind fun t202 => (if t202 = true then (if t198.toList = ([99, 111, 110, 118] : List UInt8) then (if x4_1.length < 4398046511104 then (salvorref6_Operands.l0 k1 l0 (x4_1 ++ [(⟨t198, t199⟩ : S68)]) (wrap64 (x5_1 + 1))) else (none)) else (if t198.toList = ([105, 102, 108, 97, 103] : List UInt8) then (if x4_1.length < 4398046511104 then (salvorref6_Operands.l0 k1 l0 (x4_1 ++ [(⟨t198, t199⟩ : S68)]) (wrap64 (x5_1 + 1))) else (none)) else (some (([] : List (S68)), false)))) else (if x4_1.length < 4398046511104 then (salvorref6_Operands.l0 k1 l0 (x4_1 ++ [(⟨t198, t199⟩ : S68)]) (wrap64 (x5_1 + 1))) else (none)))) else (some (([] : List (S68)), false)))) else (some (([] : List (S68)), false))) = some (r1, r2) := H
      have A5 := Aside0.mk A50
      clear A50
      by_cases c6 : t200 = true
      ·subst c6
       have H1 := H; rw [if_pos rfl] at H1
       clear H
       have H := H1
       clear H1
       replace H := Option.bind_eq_some_iff.mp H
       obtain ⟨t201, A70, H⟩ := H
       replace H : (if t201 = true then ((salvorref6_has.f k1 x4_1 t198).bind fun t202 => (if t202 = true then (if t198.toList = ([99, 111, 110, 118] : List UInt8) then (if x4_1.length < 4398046511104 then (salvorref6_Operands.l0 k1 l0 (x4_1 ++ [(⟨t198, t199⟩ : S68)]) (wrap64 (x5_1 + 1))) else (none)) else (if t198.toList = ([105, 102, 108, 97, 103] : List UInt8) then (if x4_1.length < 4398046511104 then (salvorref6_Operands.l0 k1 l0 (x4_1 ++ [(⟨t198, t199⟩ : S68)]) (wrap64 (x5_1 + 1))) else (none)) else (some (([] : List (S68)), false)))) else (if x4_1.length < 4398046511104 then (salvorref6_Operands.l0 k1 l0 (x4_1 ++ [(⟨t198, t199⟩ : S68)]) (wrap64 (x5_1 + 1))) else (none)))) else (some (([] : List (S68)), false))) = some (r1, r2) := H
       have A7 := Aside0.mk A70
       clear A70
       by_cases c8 : t201 = true
       ·subst c8
        have H1 := H; rw [if_pos rfl] at H1
        clear H
        have H := H1
        clear H1
        replace H := Option.bind_eq_some_iff.mp H
        obtain ⟨t202, A90, H⟩ := H
        replace H : (if t202 = true then (if t198.toList = ([99, 111, 110, 118] : List UInt8) then (if x4_1.length < 4398046511104 then (salvorref6_Operands.l0 k1 l0 (x4_1 ++ [(⟨t198, t199⟩ : S68)]) (wrap64 (x5_1 + 1))) else (none)) else (if t198.toList = ([105, 102, 108, 97, 103] : List UInt8) then (if x4_1.length < 4398046511104 then (salvorref6_Operands.l0 k1 l0 (x4_1 ++ [(⟨t198, t199⟩ : S68)]) (wrap64 (x5_1 + 1))) else (none)) else (some (([] : List (S68)), false)))) else (if x4_1.length < 4398046511104 then (salvorref6_Operands.l0 k1 l0 (x4_1 ++ [(⟨t198, t199⟩ : S68)]) (wrap64 (x5_1 + 1))) else (none))) = some (r1, r2) := H
        have A9 := Aside0.mk A90
        clear A90
        by_cases c10 : t202 = true
        ·subst c10
         have H1 := H; rw [if_pos rfl] at H1
         clear H
         have H := H1
         clear H1
         by_cases c11 : t198.toList = ([99, 111, 110, 118] : List UInt8)
         ·rw [if_pos c11] at H
          have c11b0 : (t198.toList == ([99, 111, 110, 118] : List UInt8)) = true := beq_iff_eq.mpr c11
          have c11b1 : (t198.toList != ([99, 111, 110, 118] : List UInt8)) = false := bne_eq_false_iff_eq.mpr c11
          clear c11
          by_cases c12 : x4_1.length < 4398046511104
          ·rw [if_pos c12] at H
           have LMc12 := Aside0.mk c12
           clear c12
           obtain ⟨y203, hy203⟩ : ∃ y_ : List (S68), y_ = (x4_1 ++ [(⟨t198, t199⟩ : S68)]) := ⟨_, rfl⟩
           replace H : (salvorref6_Operands.l0 k1 l0 y203 (wrap64 (x5_1 + 1))) = some (r1, r2) := by first | (rw [hy203]; with_reducible exact H) | (have H2_ := (Option.bind_some _ _).symm.trans H; rw [hy203]; with_reducible exact H2_) | (have H2_ := (Option.bind_some _ _).symm.trans H; with_reducible exact H2_) | with_reducible exact H | (rw [hy203]; exact H) | exact H
           have Ny203 := Aside0.mk hy203
           clear hy203
           have H' := Aside0.mk H
           clear H
           have p197 : 0 ≤ (x5_1 : Int) := of_decide_eq_true (by first | (with_reducible assumption) | assumption)
           have q197 : x5_1 < (l0.length : Int) := of_decide_eq_true (by first | (with_reducible assumption) | assumption)
           obtain ⟨ad197, e197, hx197_0⟩ := Kd.at_string HR0.out x5_1 p197 q197
           cases e197
           replace hx197_0 := (HB.out.cell (World.block_lt_of_cell? w _ hx197_0)).trans hx197_0
           replace p197 := eq_true p197
           replace q197 := eq_true q197
           go_wp2_with (first | ((with_reducible refine gate_callee (f := 44) rfl ?_); refine gl_ (some 23) rfl rfl Tryz.func44 (by kernel_rfl) rfl #[.string (rdOf ByteArray.empty l0 x5_1), .int .u8 61] rfl ?_; (with_reducible refine (salvorref6_cutAt.calls k1 (rdOf ByteArray.empty l0 x5_1) 61 t198 t199 true _ A5.out).mono ?_); rintro e w' ⟨rfl, ⟨nd, rfl⟩⟩; refine ⟨_, rfl, ?_⟩) | (go_at_call 45; (with_reducible refine (salvorref6_letters.calls k1 t198 true _ A7.out).mono ?_); rintro e w' ⟨rfl, ⟨nd, rfl⟩⟩; obtain ⟨Ao13, co13, eo13⟩ := Kd.R_slice HO_4.out; subst eo13) | (go_at_call 46; (with_reducible refine (salvorref6_has.calls k1 _ _ x4_1 t198 true _ ?side1 ?side2 A9.out).mono ?_); (case side1 => repeat (first | exact (Kd.R_reads' HO_4.out).2.2 | (with_reducible refine Kd.C_alloc ?_ _) | (with_reducible refine Kd.C_drewN ?_ _) | (with_reducible refine Kd.C_drew ?_))); (case side2 => exact (Kd.R_reads' HO_4.out).2.1); rintro e w' ⟨rfl, ⟨nd, rfl⟩⟩) | ((with_reducible refine gate_builtin (b := .append) (xs := #[.tmp 47, .tmp 51]) rfl ?_); at_builtin; refine Kd.R_append k68 (w0 := w) w.heap.size rfl (.tmp 47) (.tmp 51) 38 68 (.agg #[(.string ⟨#[]⟩), (.string ⟨#[]⟩)]) 32 rfl Tryz.underlying38 info68 rfl (by decide) (by omega) (.slice Ao13 x4_1.length co13) x4_1 (⟨t198, t199⟩ : S68) [.string t198, .string t199] (fun _ => True) (fun _ => False) rfl rfl ?aP (fun _ hk => hk.elim) ?aF ?aO ?aB ?aS ?aL ?_; (case aP => exact k68_mkM _ _ _ (⟨t198, t199⟩ : S68)); (case aB => exact (bh_ HB)); (case aF => exact (fun _ _ => trivial)); (case aO => exact (by (with_reducible repeat (first | apply Kd.R_alloc | apply Kd.R_drewN | apply Kd.R_drew)); exact HO_4.out)); (case aS => exact (below_size (bh_ HB))); (case aL => have := LMc12.out; omega); intro v204 w14 ho hb hg hat; rw [← Ny203.out] at ho; have HO205 := Aside0.mk (ho); replace HB := Aside0.mk (hb); clear HO_4; clear ho hb hg hat))
           go_roundg k1
           case measure => have := HK1.out; omega
           case rel => exact ⟨(y203), (wrap64 (x5_1 + 1)), (by first | rfl | (simp; done) | (simp [*]; done)), H', ⟨by have := HK1.out; omega⟩, ⟨by (with_reducible repeat (first | apply Kd.R_alloc | apply Kd.R_drewN | apply Kd.R_drew)); exact HO205.out⟩, ⟨bh_ HB⟩⟩
          ·rw [if_neg c12] at H
           exact absurd H (by simp)
         ·rw [if_neg c11] at H
          have c11b0 : (t198.toList == ([99, 111, 110, 118] : List UInt8)) = false := beq_eq_false_iff_ne.mpr c11
          have c11b1 : (t198.toList != ([99, 111, 110, 118] : List UInt8)) = true := bne_iff_ne.mpr c11
          by_cases c15 : t198.toList = ([105, 102, 108, 97, 103] : List UInt8)
          ·rw [if_pos c15] at H
           have c15b0 : (t198.toList == ([105, 102, 108, 97, 103] : List UInt8)) = true := beq_iff_eq.mpr c15
           have c15b1 : (t198.toList != ([105, 102, 108, 97, 103] : List UInt8)) = false := bne_eq_false_iff_eq.mpr c15
           clear c15
           by_cases c16 : x4_1.length < 4398046511104
           ·rw [if_pos c16] at H
            have LMc16 := Aside0.mk c16
            clear c16
            obtain ⟨y206, hy206⟩ : ∃ y_ : List (S68), y_ = (x4_1 ++ [(⟨t198, t199⟩ : S68)]) := ⟨_, rfl⟩
            replace H : (salvorref6_Operands.l0 k1 l0 y206 (wrap64 (x5_1 + 1))) = some (r1, r2) := by first | (rw [hy206]; with_reducible exact H) | (have H2_ := (Option.bind_some _ _).symm.trans H; rw [hy206]; with_reducible exact H2_) | (have H2_ := (Option.bind_some _ _).symm.trans H; with_reducible exact H2_) | with_reducible exact H | (rw [hy206]; exact H) | exact H
            have Ny206 := Aside0.mk hy206
            clear hy206
            have H' := Aside0.mk H
            clear H
            have p197 : 0 ≤ (x5_1 : Int) := of_decide_eq_true (by first | (with_reducible assumption) | assumption)
            have q197 : x5_1 < (l0.length : Int) := of_decide_eq_true (by first | (with_reducible assumption) | assumption)
            obtain ⟨ad197, e197, hx197_0⟩ := Kd.at_string HR0.out x5_1 p197 q197
            cases e197
            replace hx197_0 := (HB.out.cell (World.block_lt_of_cell? w _ hx197_0)).trans hx197_0
            replace p197 := eq_true p197
            replace q197 := eq_true q197
            go_wp2_with (first | ((with_reducible refine gate_callee (f := 44) rfl ?_); refine gl_ (some 23) rfl rfl Tryz.func44 (by kernel_rfl) rfl #[.string (rdOf ByteArray.empty l0 x5_1), .int .u8 61] rfl ?_; (with_reducible refine (salvorref6_cutAt.calls k1 (rdOf ByteArray.empty l0 x5_1) 61 t198 t199 true _ A5.out).mono ?_); rintro e w' ⟨rfl, ⟨nd, rfl⟩⟩; refine ⟨_, rfl, ?_⟩) | (go_at_call 45; (with_reducible refine (salvorref6_letters.calls k1 t198 true _ A7.out).mono ?_); rintro e w' ⟨rfl, ⟨nd, rfl⟩⟩; obtain ⟨Ao17, co17, eo17⟩ := Kd.R_slice HO_4.out; subst eo17) | (go_at_call 46; (with_reducible refine (salvorref6_has.calls k1 _ _ x4_1 t198 true _ ?side1 ?side2 A9.out).mono ?_); (case side1 => repeat (first | exact (Kd.R_reads' HO_4.out).2.2 | (with_reducible refine Kd.C_alloc ?_ _) | (with_reducible refine Kd.C_drewN ?_ _) | (with_reducible refine Kd.C_drew ?_))); (case side2 => exact (Kd.R_reads' HO_4.out).2.1); rintro e w' ⟨rfl, ⟨nd, rfl⟩⟩) | ((with_reducible refine gate_builtin (b := .append) (xs := #[.tmp 47, .tmp 51]) rfl ?_); at_builtin; refine Kd.R_append k68 (w0 := w) w.heap.size rfl (.tmp 47) (.tmp 51) 38 68 (.agg #[(.string ⟨#[]⟩), (.string ⟨#[]⟩)]) 32 rfl Tryz.underlying38 info68 rfl (by decide) (by omega) (.slice Ao17 x4_1.length co17) x4_1 (⟨t198, t199⟩ : S68) [.string t198, .string t199] (fun _ => True) (fun _ => False) rfl rfl ?aP (fun _ hk => hk.elim) ?aF ?aO ?aB ?aS ?aL ?_; (case aP => exact k68_mkM _ _ _ (⟨t198, t199⟩ : S68)); (case aB => exact (bh_ HB)); (case aF => exact (fun _ _ => trivial)); (case aO => exact (by (with_reducible repeat (first | apply Kd.R_alloc | apply Kd.R_drewN | apply Kd.R_drew)); exact HO_4.out)); (case aS => exact (below_size (bh_ HB))); (case aL => have := LMc16.out; omega); intro v207 w18 ho hb hg hat; rw [← Ny206.out] at ho; have HO208 := Aside0.mk (ho); replace HB := Aside0.mk (hb); clear HO_4; clear ho hb hg hat))
            go_roundg k1
            case measure => have := HK1.out; omega
            case rel => exact ⟨(y206), (wrap64 (x5_1 + 1)), (by first | rfl | (simp; done) | (simp [*]; done)), H', ⟨by have := HK1.out; omega⟩, ⟨by (with_reducible repeat (first | apply Kd.R_alloc | apply Kd.R_drewN | apply Kd.R_drew)); exact HO208.out⟩, ⟨bh_ HB⟩⟩
           ·rw [if_neg c16] at H
            exact absurd H (by simp)
          ·rw [if_neg c15] at H
           have c15b0 : (t198.toList == ([105, 102, 108, 97, 103] : List UInt8)) = false := beq_eq_false_iff_ne.mpr c15
           have c15b1 : (t198.toList != ([105, 102, 108, 97, 103] : List UInt8)) = true := bne_iff_ne.mpr c15
           simp only [Option.some.injEq, Prod.mk.injEq] at H
           obtain ⟨rfl, rfl⟩ := H
           have p197 : 0 ≤ (x5_1 : Int) := of_decide_eq_true (by first | (with_reducible assumption) | assumption)
           have q197 : x5_1 < (l0.length : Int) := of_decide_eq_true (by first | (with_reducible assumption) | assumption)
           obtain ⟨ad197, e197, hx197_0⟩ := Kd.at_string HR0.out x5_1 p197 q197
           cases e197
           replace hx197_0 := (HB.out.cell (World.block_lt_of_cell? w _ hx197_0)).trans hx197_0
           replace p197 := eq_true p197
           replace q197 := eq_true q197
           go_wp2_with (first | ((with_reducible refine gate_callee (f := 44) rfl ?_); refine gl_ (some 23) rfl rfl Tryz.func44 (by kernel_rfl) rfl #[.string (rdOf ByteArray.empty l0 x5_1), .int .u8 61] rfl ?_; (with_reducible refine (salvorref6_cutAt.calls k1 (rdOf ByteArray.empty l0 x5_1) 61 t198 t199 true _ A5.out).mono ?_); rintro e w' ⟨rfl, ⟨nd, rfl⟩⟩; refine ⟨_, rfl, ?_⟩) | (go_at_call 45; (with_reducible refine (salvorref6_letters.calls k1 t198 true _ A7.out).mono ?_); rintro e w' ⟨rfl, ⟨nd, rfl⟩⟩; obtain ⟨Ao19, co19, eo19⟩ := Kd.R_slice HO_4.out; subst eo19) | (go_at_call 46; (with_reducible refine (salvorref6_has.calls k1 _ _ x4_1 t198 true _ ?side1 ?side2 A9.out).mono ?_); (case side1 => repeat (first | exact (Kd.R_reads' HO_4.out).2.2 | (with_reducible refine Kd.C_alloc ?_ _) | (with_reducible refine Kd.C_drewN ?_ _) | (with_reducible refine Kd.C_drew ?_))); (case side2 => exact (Kd.R_reads' HO_4.out).2.1); rintro e w' ⟨rfl, ⟨nd, rfl⟩⟩))
           go_ret2
           exact ⟨_, by first | rfl | (simp [errW_none, errW_some] <;> rfl) | (simp [*, errW_none, errW_some] <;> rfl), by first | exact Kd.R_nil _ _ _ _ _ | exact Kd.N_nil _ _ _ _ _ | exact Kd.V_nil _ _ _ _ _ | exact Kd.Q_nil _ _ _ _ _ | exact Kd.S_nil _ _ _ _ _, bh_ HB⟩
        ·replace c10 := Bool.eq_false_iff.mpr c10
         subst c10
         have H1 : (if x4_1.length < 4398046511104 then (salvorref6_Operands.l0 k1 l0 (x4_1 ++ [(⟨t198, t199⟩ : S68)]) (wrap64 (x5_1 + 1))) else (none)) = some (r1, r2) := by rw [if_neg (show ¬ (false = true) by decide)] at H; exact H
         clear H
         have H := H1
         clear H1
         by_cases c20 : x4_1.length < 4398046511104
         ·rw [if_pos c20] at H
          have LMc20 := Aside0.mk c20
          clear c20
          obtain ⟨y209, hy209⟩ : ∃ y_ : List (S68), y_ = (x4_1 ++ [(⟨t198, t199⟩ : S68)]) := ⟨_, rfl⟩
          replace H : (salvorref6_Operands.l0 k1 l0 y209 (wrap64 (x5_1 + 1))) = some (r1, r2) := by first | (rw [hy209]; with_reducible exact H) | (have H2_ := (Option.bind_some _ _).symm.trans H; rw [hy209]; with_reducible exact H2_) | (have H2_ := (Option.bind_some _ _).symm.trans H; with_reducible exact H2_) | with_reducible exact H | (rw [hy209]; exact H) | exact H
          have Ny209 := Aside0.mk hy209
          clear hy209
          have H' := Aside0.mk H
          clear H
          have p197 : 0 ≤ (x5_1 : Int) := of_decide_eq_true (by first | (with_reducible assumption) | assumption)
          have q197 : x5_1 < (l0.length : Int) := of_decide_eq_true (by first | (with_reducible assumption) | assumption)
          obtain ⟨ad197, e197, hx197_0⟩ := Kd.at_string HR0.out x5_1 p197 q197
          cases e197
          replace hx197_0 := (HB.out.cell (World.block_lt_of_cell? w _ hx197_0)).trans hx197_0
          replace p197 := eq_true p197
          replace q197 := eq_true q197
          go_wp2_with (first | ((with_reducible refine gate_callee (f := 44) rfl ?_); refine gl_ (some 23) rfl rfl Tryz.func44 (by kernel_rfl) rfl #[.string (rdOf ByteArray.empty l0 x5_1), .int .u8 61] rfl ?_; (with_reducible refine (salvorref6_cutAt.calls k1 (rdOf ByteArray.empty l0 x5_1) 61 t198 t199 true _ A5.out).mono ?_); rintro e w' ⟨rfl, ⟨nd, rfl⟩⟩; refine ⟨_, rfl, ?_⟩) | (go_at_call 45; (with_reducible refine (salvorref6_letters.calls k1 t198 true _ A7.out).mono ?_); rintro e w' ⟨rfl, ⟨nd, rfl⟩⟩; obtain ⟨Ao21, co21, eo21⟩ := Kd.R_slice HO_4.out; subst eo21) | (go_at_call 46; (with_reducible refine (salvorref6_has.calls k1 _ _ x4_1 t198 false _ ?side1 ?side2 A9.out).mono ?_); (case side1 => repeat (first | exact (Kd.R_reads' HO_4.out).2.2 | (with_reducible refine Kd.C_alloc ?_ _) | (with_reducible refine Kd.C_drewN ?_ _) | (with_reducible refine Kd.C_drew ?_))); (case side2 => exact (Kd.R_reads' HO_4.out).2.1); rintro e w' ⟨rfl, ⟨nd, rfl⟩⟩) | ((with_reducible refine gate_builtin (b := .append) (xs := #[.tmp 47, .tmp 51]) rfl ?_); at_builtin; refine Kd.R_append k68 (w0 := w) w.heap.size rfl (.tmp 47) (.tmp 51) 38 68 (.agg #[(.string ⟨#[]⟩), (.string ⟨#[]⟩)]) 32 rfl Tryz.underlying38 info68 rfl (by decide) (by omega) (.slice Ao21 x4_1.length co21) x4_1 (⟨t198, t199⟩ : S68) [.string t198, .string t199] (fun _ => True) (fun _ => False) rfl rfl ?aP (fun _ hk => hk.elim) ?aF ?aO ?aB ?aS ?aL ?_; (case aP => exact k68_mkM _ _ _ (⟨t198, t199⟩ : S68)); (case aB => exact (bh_ HB)); (case aF => exact (fun _ _ => trivial)); (case aO => exact (by (with_reducible repeat (first | apply Kd.R_alloc | apply Kd.R_drewN | apply Kd.R_drew)); exact HO_4.out)); (case aS => exact (below_size (bh_ HB))); (case aL => have := LMc20.out; omega); intro v210 w22 ho hb hg hat; rw [← Ny209.out] at ho; have HO211 := Aside0.mk (ho); replace HB := Aside0.mk (hb); clear HO_4; clear ho hb hg hat))
          go_roundg k1
          case measure => have := HK1.out; omega
          case rel => exact ⟨(y209), (wrap64 (x5_1 + 1)), (by first | rfl | (simp; done) | (simp [*]; done)), H', ⟨by have := HK1.out; omega⟩, ⟨by (with_reducible repeat (first | apply Kd.R_alloc | apply Kd.R_drewN | apply Kd.R_drew)); exact HO211.out⟩, ⟨bh_ HB⟩⟩
         ·rw [if_neg c20] at H
          exact absurd H (by simp)
       ·replace c8 := Bool.eq_false_iff.mpr c8
        subst c8
        have H1 : (some (([] : List (S68)), false)) = some (r1, r2) := by rw [if_neg (show ¬ (false = true) by decide)] at H; exact H
        clear H
        have H := H1
        clear H1
        simp only [Option.some.injEq, Prod.mk.injEq] at H
        obtain ⟨rfl, rfl⟩ := H
        have p197 : 0 ≤ (x5_1 : Int) := of_decide_eq_true (by first | (with_reducible assumption) | assumption)
        have q197 : x5_1 < (l0.length : Int) := of_decide_eq_true (by first | (with_reducible assumption) | assumption)
        obtain ⟨ad197, e197, hx197_0⟩ := Kd.at_string HR0.out x5_1 p197 q197
        cases e197
        replace hx197_0 := (HB.out.cell (World.block_lt_of_cell? w _ hx197_0)).trans hx197_0
        replace p197 := eq_true p197
        replace q197 := eq_true q197
        go_wp2_with (first | ((with_reducible refine gate_callee (f := 44) rfl ?_); refine gl_ (some 23) rfl rfl Tryz.func44 (by kernel_rfl) rfl #[.string (rdOf ByteArray.empty l0 x5_1), .int .u8 61] rfl ?_; (with_reducible refine (salvorref6_cutAt.calls k1 (rdOf ByteArray.empty l0 x5_1) 61 t198 t199 true _ A5.out).mono ?_); rintro e w' ⟨rfl, ⟨nd, rfl⟩⟩; refine ⟨_, rfl, ?_⟩) | (go_at_call 45; (with_reducible refine (salvorref6_letters.calls k1 t198 false _ A7.out).mono ?_); rintro e w' ⟨rfl, ⟨nd, rfl⟩⟩))
        go_ret2
        exact ⟨_, by first | rfl | (simp [errW_none, errW_some] <;> rfl) | (simp [*, errW_none, errW_some] <;> rfl), by first | exact Kd.R_nil _ _ _ _ _ | exact Kd.N_nil _ _ _ _ _ | exact Kd.V_nil _ _ _ _ _ | exact Kd.Q_nil _ _ _ _ _ | exact Kd.S_nil _ _ _ _ _, bh_ HB⟩
      ·replace c6 := Bool.eq_false_iff.mpr c6
       subst c6
       have H1 : (some (([] : List (S68)), false)) = some (r1, r2) := by rw [if_neg (show ¬ (false = true) by decide)] at H; exact H
       clear H
       have H := H1
       clear H1
       simp only [Option.some.injEq, Prod.mk.injEq] at H
       obtain ⟨rfl, rfl⟩ := H
       have p197 : 0 ≤ (x5_1 : Int) := of_decide_eq_true (by first | (with_reducible assumption) | assumption)
       have q197 : x5_1 < (l0.length : Int) := of_decide_eq_true (by first | (with_reducible assumption) | assumption)
       obtain ⟨ad197, e197, hx197_0⟩ := Kd.at_string HR0.out x5_1 p197 q197
       cases e197
       replace hx197_0 := (HB.out.cell (World.block_lt_of_cell? w _ hx197_0)).trans hx197_0
       replace p197 := eq_true p197
       replace q197 := eq_true q197
       go_wp2_with (first | ((with_reducible refine gate_callee (f := 44) rfl ?_); refine gl_ (some 23) rfl rfl Tryz.func44 (by kernel_rfl) rfl #[.string (rdOf ByteArray.empty l0 x5_1), .int .u8 61] rfl ?_; (with_reducible refine (salvorref6_cutAt.calls k1 (rdOf ByteArray.empty l0 x5_1) 61 t198 t199 false _ A5.out).mono ?_); rintro e w' ⟨rfl, ⟨nd, rfl⟩⟩; refine ⟨_, rfl, ?_⟩))
       go_ret2
       exact ⟨_, by first | rfl | (simp [errW_none, errW_some] <;> rfl) | (simp [*, errW_none, errW_some] <;> rfl), by first | exact Kd.R_nil _ _ _ _ _ | exact Kd.N_nil _ _ _ _ _ | exact Kd.V_nil _ _ _ _ _ | exact Kd.Q_nil _ _ _ _ _ | exact Kd.S_nil _ _ _ _ _, bh_ HB⟩
     ·rw [if_neg c4] at H
      exact absurd H (by simp)
    ·rw [if_neg c3] at H
     have c3b0 : decide (x5_1 < (l0.length : Int)) = false := decide_eq_false c3
     clear c3
     simp only [Option.some.injEq, Prod.mk.injEq] at H
     obtain ⟨rfl, rfl⟩ := H
     go_wp2
     go_ret2
     exact ⟨_, by first | rfl | (simp [errW_none, errW_some] <;> rfl) | (simp [*, errW_none, errW_some] <;> rfl), by (with_reducible repeat (first | apply Kd.R_alloc | apply Kd.R_drewN | apply Kd.R_drew)); exact HO_4.out, bh_ HB⟩
end Go.Proofs.YtbmhfnncagncmaaGreatDoor.P
