/- Laid by a program of this session's own (wip/wprint.py, over the kit's print.py): functions of the given program as plain Lean functions, and that the program's calls come to their answers. -/
import Derived.Test.YtbmhfnncagncmaaDoorPx0
import Derived.Test.YtbmhfnncagncmaaDoorPx3
import Derived.Test.YtbmhfnncagncmaaDoorPx4
namespace Go.Proofs.YtbmhfnncagncmaaDoor.P
open Go.RowKit Go.Proofs.YtbmhfnncagncmaaDoorW.PrintWords Go.Proofs.YtbmhfnncagncmaaDoorW.PrintLast Go.Proofs.YtbmhfnncagncmaaDoorW.PrintMore
attribute [local go_sem] max2_int min2_int max_two min_two max_three min_three max_four min_four   -- for this text's walks alone
set_option linter.unusedVariables false
set_option linter.unusedSimpArgs false

/-! ### arg_Operands: function 8 -/
mutual
def arg_Operands.l0 : Nat → List (S60) → List ByteArray → Int → Int → Option ((List (S60)) × Bool)
 | 0, _, _, _, _ => none
 | k + 1, x4, x15, x16, x17 => if x17 < x16 then (if 0 ≤ x17 then (if x17 < (x15.length : Int) then ((strings_Cut.f (rdOf ByteArray.empty x15 x17) (⟨#[61]⟩ : ByteArray)).bind fun bt103 => (if bt103.2.2 = true then ((arg_key.f k bt103.1).bind fun t106 => (arg_Operands.j1 k x4 bt103.1 bt103.2.1 x15 x16 x17 (!t106))) else (arg_Operands.j1 k x4 bt103.1 bt103.2.1 x15 x16 x17 true))) else (none)) else (none)) else (some (x4, true))
def arg_Operands.j1 : Nat → List (S60) → ByteArray → ByteArray → List ByteArray → Int → Int → Bool → Option ((List (S60)) × Bool)
 | 0, _, _, _, _, _, _, _ => none
 | k + 1, x4, x7, x8, x15, x16, x17, x33 => if x33 = true then (some (([] : List (S60)), false)) else ((arg_Find.f x4 x7).bind fun bt107 => (if bt107.2 = true then (if x7.toList = ([99, 111, 110, 118] : List UInt8) then (if x4.length < 4398046511104 then (arg_Operands.l0 k (x4 ++ [(⟨x7, x8⟩ : S60)]) x15 x16 (wrap64 (x17 + 1))) else (none)) else (if x7.toList = ([105, 102, 108, 97, 103] : List UInt8) then (if x4.length < 4398046511104 then (arg_Operands.l0 k (x4 ++ [(⟨x7, x8⟩ : S60)]) x15 x16 (wrap64 (x17 + 1))) else (none)) else (some (([] : List (S60)), false)))) else (if x4.length < 4398046511104 then (arg_Operands.l0 k (x4 ++ [(⟨x7, x8⟩ : S60)]) x15 x16 (wrap64 (x17 + 1))) else (none))))
end
def arg_Operands.f (k : Nat) (l0 : List ByteArray) : Option ((List (S60)) × Bool) := if (l0.length : Int) > 40 then (some (([] : List (S60)), false)) else (arg_Operands.l0 k ([] : List (S60)) l0 (l0.length : Int) 0)
theorem arg_Operands.mono_l : ∀ k, (∀ y0 y1 y2 y3, LeO (arg_Operands.l0 k y0 y1 y2 y3) (arg_Operands.l0 (k + 1) y0 y1 y2 y3)) ∧ (∀ y0 y1 y2 y3 y4 y5 y6, LeO (arg_Operands.j1 k y0 y1 y2 y3 y4 y5 y6) (arg_Operands.j1 (k + 1) y0 y1 y2 y3 y4 y5 y6))
 | 0 => ⟨fun _ _ _ _ r h => by simp [arg_Operands.l0] at h, fun _ _ _ _ _ _ _ r h => by simp [arg_Operands.j1] at h⟩
 | k + 1 => by
  obtain ⟨ih0, ih1⟩ := arg_Operands.mono_l k
  refine ⟨?_, ?_⟩
  ·intro y0 y1 y2 y3
   unfold arg_Operands.l0
   repeat' first
   | (with_reducible exact ih0 _ _ _ _)
   | (with_reducible exact ih1 _ _ _ _ _ _ _)
   | (with_reducible exact arg_key.mono _ _)
   | (with_reducible exact LeO.refl _)
   | (with_reducible exact LeO.none _)
   | (with_reducible refine LeO.ite ?_ ?_)
   | (with_reducible refine LeO.bind ?_ (fun _ => ?_))
   | exact ih0 _ _ _ _
   | exact ih1 _ _ _ _ _ _ _
   | exact arg_key.mono _ _
   | exact LeO.none _
   | refine LeO.ite ?_ ?_
   | refine LeO.bind ?_ (fun _ => ?_)
  ·intro y0 y1 y2 y3 y4 y5 y6
   unfold arg_Operands.j1
   repeat' first
   | (with_reducible exact ih0 _ _ _ _)
   | (with_reducible exact ih1 _ _ _ _ _ _ _)
   | (with_reducible exact arg_key.mono _ _)
   | (with_reducible exact LeO.refl _)
   | (with_reducible exact LeO.none _)
   | (with_reducible refine LeO.ite ?_ ?_)
   | (with_reducible refine LeO.bind ?_ (fun _ => ?_))
   | exact ih0 _ _ _ _
   | exact ih1 _ _ _ _ _ _ _
   | exact arg_key.mono _ _
   | exact LeO.none _
   | refine LeO.ite ?_ ?_
   | refine LeO.bind ?_ (fun _ => ?_)
theorem arg_Operands.mono : ∀ a0 k, LeO (arg_Operands.f k a0) (arg_Operands.f (k + 1) a0) := by
 intro a0 k
 obtain ⟨ih0, ih1⟩ := arg_Operands.mono_l k
 unfold arg_Operands.f
 repeat' first
   | (with_reducible exact ih0 _ _ _ _)
   | (with_reducible exact ih1 _ _ _ _ _ _ _)
   | (with_reducible exact arg_key.mono _ _)
   | (with_reducible exact LeO.refl _)
   | (with_reducible exact LeO.none _)
   | (with_reducible refine LeO.ite ?_ ?_)
   | (with_reducible refine LeO.bind ?_ (fun _ => ?_))
   | exact ih0 _ _ _ _
   | exact ih1 _ _ _ _ _ _ _
   | exact arg_key.mono _ _
   | exact LeO.none _
   | refine LeO.ite ?_ ?_
   | refine LeO.bind ?_ (fun _ => ?_)
set_option maxHeartbeats 8000000 in
set_option maxRecDepth 100000 in
theorem arg_Operands.calls (k : Nat) (A0 : Option Addr) (c0 : Nat) (l0 : List ByteArray) (r1 : List (S60)) (r2 : Bool) (w : World) (hr0 : Kd.C Kd.string w A0 l0.length l0) (hc0 : l0.length ≤ c0) (h : arg_Operands.f k l0 = some (r1, r2)) (htab : TabAt w) :
  Calls Tryd.prog 8 #[.slice A0 l0.length c0] w fun e w' => ∃ v0_ : Value, e = .returned (.tuple #[v0_, .bool r2]) ∧ Kd.R k60 60 w' w.heap.size (fun _ => True) v0_ r1 ∧ Below w.heap.size w w' := by
 have HTAB := Aside0.mk htab
 clear htab
 have hu60 := Tryd.underlying60
 have HR0 := Aside0.mk hr0
 have HC0 := Aside0.mk hc0
 clear hr0 hc0
 have HB := Aside0.mk (Below.refl w.heap.size w)
 have H : (if (l0.length : Int) > 40 then (some (([] : List (S60)), false)) else (arg_Operands.l0 k ([] : List (S60)) l0 (l0.length : Int) 0)) = some (r1, r2) := h
 clear h
 by_cases c2 : (l0.length : Int) > 40
 ·rw [if_pos c2] at H
  have c2b0 : decide (40 < (l0.length : Int)) = true := decide_eq_true c2
  have c2b1 : decide (40 < l0.length) = true := decide_eq_true (by omega)
  clear c2
  simp only [Option.some.injEq, Prod.mk.injEq] at H
  obtain ⟨rfl, rfl⟩ := H
  go_enter Tryd.func8, Tryd.ntmps8
  go_wp2
  go_ret2
  exact ⟨_, by first | rfl | (simp [errW_none, errW_some] <;> rfl) | (simp [*, errW_none, errW_some] <;> rfl), by first | exact Kd.R_nil _ _ _ _ _ | exact Kd.N_nil _ _ _ _ _ | exact Kd.V_nil _ _ _ _ _ | exact Kd.Q_nil _ _ _ _ _ | exact Kd.S_nil _ _ _ _ _, bh_ HB⟩
 ·rw [if_neg c2] at H
  have c2b0 : decide (40 < (l0.length : Int)) = false := decide_eq_false c2
  have c2b1 : decide (40 < l0.length) = false := decide_eq_false (by omega)
  clear c2
  have H' := Aside0.mk H
  clear H
  go_enter Tryd.func8, Tryd.ntmps8
  go_wp2
  go_loopg [4, 17] k (fun kq v4 v17 w' => ∃ (x4_1 : List (S60)) (x17_1 : Int), v17 = .int .i64 x17_1 ∧ Aside0 (arg_Operands.l0 kq x4_1 l0 (l0.length : Int) x17_1 = some (r1, r2)) ∧ Aside0 (kq ≤ k) ∧ Aside0 (Kd.R k60 60 w' w.heap.size (fun _ => True) v4 x4_1) ∧ Aside0 (Below w.heap.size w w'))
  case atStart => exact ⟨(([] : List (S60))), (0), (by first | rfl | (simp; done) | (simp [*]; done)), H', ⟨Nat.le_refl _⟩, ⟨by first | exact Kd.R_nil _ _ _ _ _ | exact Kd.N_nil _ _ _ _ _ | exact Kd.V_nil _ _ _ _ _ | exact Kd.Q_nil _ _ _ _ _ | exact Kd.S_nil _ _ _ _ _⟩, ⟨bh_ HB⟩⟩
  case round =>
   clear H'
   try clear c2
   try clear c2b0
   try clear c2b1
   try clear p2
   obtain ⟨x4_1, x17_1, rfl, HA, HK1, HO_4, HB⟩ := hrel
   cases gk with
   | zero => exact absurd HA.out (by simp [arg_Operands.l0])
   | succ k1 =>
    have H := HA.out
    clear HA
    simp only [arg_Operands.l0] at H
    by_cases c3 : x17_1 < (l0.length : Int)
    ·rw [if_pos c3] at H
     have c3b0 : decide (x17_1 < (l0.length : Int)) = true := decide_eq_true c3
     clear c3
     by_cases c4 : 0 ≤ x17_1
     ·rw [if_pos c4] at H
      have c4b0 : decide (0 ≤ x17_1) = true := decide_eq_true c4
      clear c4
      by_cases c5 : x17_1 < (l0.length : Int)
      ·rw [if_pos c5] at H
       have c5b0 : decide (x17_1 < (l0.length : Int)) = true := decide_eq_true c5
       clear c5
       replace H := Option.bind_eq_some_iff.mp H
       obtain ⟨⟨t103, t104, t105⟩, A60, H⟩ := H
       replace H : (if t105 = true then ((arg_key.f k1 t103).bind fun t106 => (arg_Operands.j1 k1 x4_1 t103 t104 l0 (l0.length : Int) x17_1 (!t106))) else (arg_Operands.j1 k1 x4_1 t103 t104 l0 (l0.length : Int) x17_1 true)) = some (r1, r2) := H
       have A6 := Aside0.mk A60
       clear A60
       have HC7 := Aside0.mk H
       clear H
       have p102 : 0 ≤ (x17_1 : Int) := of_decide_eq_true (by first | (with_reducible assumption) | assumption)
       have q102 : x17_1 < (l0.length : Int) := of_decide_eq_true (by first | (with_reducible assumption) | assumption)
       obtain ⟨ad102, e102, hx102_0⟩ := Kd.at_string HR0.out x17_1 p102 q102
       cases e102
       replace hx102_0 := (HB.out.cell (World.block_lt_of_cell? w _ hx102_0)).trans hx102_0
       replace p102 := eq_true p102
       replace q102 := eq_true q102
       go_upto_region 8 with (first | ((with_reducible refine gate_callee (f := 19) rfl ?_); refine gl_ (some 23) rfl rfl Tryd.func19 (by kernel_rfl) rfl #[.string (rdOf ByteArray.empty l0 x17_1), .string (⟨#[61]⟩ : ByteArray)] rfl ?_; (with_reducible refine (strings_Cut.calls (rdOf ByteArray.empty l0 x17_1) (⟨#[61]⟩ : ByteArray) t103 t104 t105 _ A6.out ?tb0_).mono ?_); (case tb0_ => exact tb_ HTAB HB); rintro e w' ⟨rfl, ⟨nd, rfl⟩⟩; refine ⟨_, rfl, ?_⟩))
       (try simp only [Act.put, List.setIfInBounds_toArray, List.set_cons_zero, List.set_cons_succ])
       go_cut [33] (fun v33 wc => ∃ (kq : Nat) (x33_6 : Bool), v33 = .bool x33_6 ∧ Aside0 (arg_Operands.j1 kq x4_1 t103 t104 l0 (l0.length : Int) x17_1 x33_6 = some (r1, r2)) ∧ Aside0 (kq ≤ k1) ∧ Aside0 (Kd.R k60 60 wc w.heap.size (fun _ => True) u4 x4_1) ∧ Aside0 (Below w.heap.size w wc))
       case first =>
        have H := HC7.out
        clear HC7
        by_cases c8 : t105 = true
        ·subst c8
         have H1 : ((arg_key.f k1 t103).bind fun t106 => (arg_Operands.j1 k1 x4_1 t103 t104 l0 (l0.length : Int) x17_1 (!t106))) = some (r1, r2) := by rw [if_pos rfl] at H; exact H
         clear H
         have H := H1
         clear H1
         replace H := Option.bind_eq_some_iff.mp H
         obtain ⟨t106, A90, H⟩ := H
         replace H : (arg_Operands.j1 k1 x4_1 t103 t104 l0 (l0.length : Int) x17_1 (!t106)) = some (r1, r2) := H
         have A9 := Aside0.mk A90
         clear A90
         have H' := Aside0.mk H
         clear H
         go_wp2_with (first | (go_at_call 20; (with_reducible refine (arg_key.calls k1 t103 t106 _ A9.out).mono ?_); rintro e w' ⟨rfl, ⟨nd, rfl⟩⟩))
         go_meet
         case rel => exact ⟨_, (!t106), (by first | rfl | (simp; done) | (simp [*]; done)), H', ⟨by have := HK1.out; first | omega | exact Nat.le_refl _⟩, ⟨by (with_reducible repeat (first | apply Kd.R_alloc | apply Kd.R_drewN | apply Kd.R_drew)); exact HO_4.out⟩, ⟨bh_ HB⟩⟩
        ·replace c8 := Bool.eq_false_iff.mpr c8
         subst c8
         have H1 : (arg_Operands.j1 k1 x4_1 t103 t104 l0 (l0.length : Int) x17_1 true) = some (r1, r2) := by rw [if_neg (show ¬ (false = true) by decide)] at H; exact H
         clear H
         have H := H1
         clear H1
         have H' := Aside0.mk H
         clear H
         go_wp2
         go_meet
         case rel => exact ⟨_, (true), (by first | rfl | (simp; done) | (simp [*]; done)), H', ⟨by have := HK1.out; first | omega | exact Nat.le_refl _⟩, ⟨by (with_reducible repeat (first | apply Kd.R_alloc | apply Kd.R_drewN | apply Kd.R_drew)); exact HO_4.out⟩, ⟨bh_ HB⟩⟩
       case rest =>
        clear HC7
        try clear c1
        try clear p1
        try clear q1
        try clear hx1
        try clear c2
        try clear c2b0
        try clear c2b1
        try clear p2
        try clear c3
        try clear c3b0
        try clear c4
        try clear c4b0
        try clear c5
        try clear c5b0
        try clear c8
        try clear hx102_0
        try clear p102
        try clear p2
        try clear q102
        obtain ⟨kq, x33_6, rfl, HA, HJ6, HO_4, HB⟩ := hcut
        cases kq with
        | zero => exact absurd HA.out (by simp [arg_Operands.j1])
        | succ kj6 =>
         have H := HA.out
         clear HA
         simp only [arg_Operands.j1] at H
         by_cases c10 : x33_6 = true
         ·subst c10
          have H1 : (some (([] : List (S60)), false)) = some (r1, r2) := by rw [if_pos rfl] at H; exact H
          clear H
          have H := H1
          clear H1
          simp only [Option.some.injEq, Prod.mk.injEq] at H
          obtain ⟨rfl, rfl⟩ := H
          go_wp2
          go_ret2
          exact ⟨_, by first | rfl | (simp [errW_none, errW_some] <;> rfl) | (simp [*, errW_none, errW_some] <;> rfl), by first | exact Kd.R_nil _ _ _ _ _ | exact Kd.N_nil _ _ _ _ _ | exact Kd.V_nil _ _ _ _ _ | exact Kd.Q_nil _ _ _ _ _ | exact Kd.S_nil _ _ _ _ _, bh_ HB⟩
         ·replace c10 := Bool.eq_false_iff.mpr c10
          subst c10
          have H1 : ((arg_Find.f x4_1 t103).bind fun bt107 => (if bt107.2 = true then (if t103.toList = ([99, 111, 110, 118] : List UInt8) then (if x4_1.length < 4398046511104 then (arg_Operands.l0 kj6 (x4_1 ++ [(⟨t103, t104⟩ : S60)]) l0 (l0.length : Int) (wrap64 (x17_1 + 1))) else (none)) else (if t103.toList = ([105, 102, 108, 97, 103] : List UInt8) then (if x4_1.length < 4398046511104 then (arg_Operands.l0 kj6 (x4_1 ++ [(⟨t103, t104⟩ : S60)]) l0 (l0.length : Int) (wrap64 (x17_1 + 1))) else (none)) else (some (([] : List (S60)), false)))) else (if x4_1.length < 4398046511104 then (arg_Operands.l0 kj6 (x4_1 ++ [(⟨t103, t104⟩ : S60)]) l0 (l0.length : Int) (wrap64 (x17_1 + 1))) else (none)))) = some (r1, r2) := by rw [if_neg (show ¬ (false = true) by decide)] at H; exact H
          clear H
          have H := H1
          clear H1
          replace H := Option.bind_eq_some_iff.mp H
          obtain ⟨⟨t107, t108⟩, A110, H⟩ := H
          replace H : (if t108 = true then (if t103.toList = ([99, 111, 110, 118] : List UInt8) then (if x4_1.length < 4398046511104 then (arg_Operands.l0 kj6 (x4_1 ++ [(⟨t103, t104⟩ : S60)]) l0 (l0.length : Int) (wrap64 (x17_1 + 1))) else (none)) else (if t103.toList = ([105, 102, 108, 97, 103] : List UInt8) then (if x4_1.length < 4398046511104 then (arg_Operands.l0 kj6 (x4_1 ++ [(⟨t103, t104⟩ : S60)]) l0 (l0.length : Int) (wrap64 (x17_1 + 1))) else (none)) else (some (([] : List (S60)), false)))) else (if x4_1.length < 4398046511104 then (arg_Operands.l0 kj6 (x4_1 ++ [(⟨t103, t104⟩ : S60)]) l0 (l0.length : Int) (wrap64 (x17_1 + 1))) else (none))) = some (r1, r2) := H
          have A11 := Aside0.mk A110
          clear A110
          by_cases c12 : t108 = true
          ·subst c12
           have H1 : (if t103.toList = ([99, 111, 110, 118] : List UInt8) then (if x4_1.length < 4398046511104 then (arg_Operands.l0 kj6 (x4_1 ++ [(⟨t103, t104⟩ : S60)]) l0 (l0.length : Int) (wrap64 (x17_1 + 1))) else (none)) else (if t103.toList = ([105, 102, 108, 97, 103] : List UInt8) then (if x4_1.length < 4398046511104 then (arg_Operands.l0 kj6 (x4_1 ++ [(⟨t103, t104⟩ : S60)]) l0 (l0.length : Int) (wrap64 (x17_1 + 1))) else (none)) else (some (([] : List (S60)), false)))) = some (r1, r2) := by rw [if_pos rfl] at H; exact H
           clear H
           have H := H1
           clear H1
           by_cases c13 : t103.toList = ([99, 111, 110, 118] : List UInt8)
           ·rw [if_pos c13] at H
            have c13b0 : (t103.toList == ([99, 111, 110, 118] : List UInt8)) = true := beq_iff_eq.mpr c13
            have c13b1 : (t103.toList != ([99, 111, 110, 118] : List UInt8)) = false := bne_eq_false_iff_eq.mpr c13
            clear c13
            by_cases c14 : x4_1.length < 4398046511104
            ·rw [if_pos c14] at H
             have LMc14 := Aside0.mk c14
             clear c14
             obtain ⟨y109, hy109⟩ : ∃ y_ : List (S60), y_ = (x4_1 ++ [(⟨t103, t104⟩ : S60)]) := ⟨_, rfl⟩
             replace H : (arg_Operands.l0 kj6 y109 l0 (l0.length : Int) (wrap64 (x17_1 + 1))) = some (r1, r2) := by first | (rw [hy109]; with_reducible exact H) | (have H2_ := (Option.bind_some _ _).symm.trans H; rw [hy109]; with_reducible exact H2_) | (have H2_ := (Option.bind_some _ _).symm.trans H; with_reducible exact H2_) | with_reducible exact H | (rw [hy109]; exact H) | exact H
             have Ny109 := Aside0.mk hy109
             clear hy109
             have H' := Aside0.mk H
             clear H
             obtain ⟨Ao15, co15, eo15⟩ := Kd.R_slice HO_4.out
             subst eo15
             go_wp2_with (first | ((with_reducible refine gate_callee (f := 21) rfl ?_); refine gl_ (some 37) rfl rfl Tryd.func21 (by kernel_rfl) rfl #[.slice Ao15 x4_1.length co15, .string t103] rfl ?_; (with_reducible refine (arg_Find.calls _ _ x4_1 t103 t107 true _ ?side1 ?side2 A11.out).mono ?_); (case side1 => repeat (first | exact (Kd.R_reads' HO_4.out).2.2 | (with_reducible refine Kd.C_alloc ?_ _) | (with_reducible refine Kd.C_drewN ?_ _) | (with_reducible refine Kd.C_drew ?_))); (case side2 => exact (Kd.R_reads' HO_4.out).2.1); rintro e w16 ⟨rfl, hb⟩; refine ⟨_, rfl, ?_⟩; have n0_ := Aside0.mk (Kd.R_below (by (with_reducible repeat (first | apply Kd.R_alloc | apply Kd.R_drewN | apply Kd.R_drew)); exact HO_4.out) hb); have n1_ := bs_ HB hb; clear HO_4; clear HB; have HO_4 := n0_; have HB := n1_; clear n0_ n1_; (try clear hb)) | ((with_reducible refine gate_builtin (b := .append) (xs := #[.tmp 49, .tmp 53]) rfl ?_); at_builtin; refine Kd.R_append k60 (w0 := w) w.heap.size rfl (.tmp 49) (.tmp 53) 37 60 (.agg #[(.string ⟨#[]⟩), (.string ⟨#[]⟩)]) 32 rfl Tryd.underlying37 info60 rfl (by decide) (by omega) (.slice Ao15 x4_1.length co15) x4_1 (⟨t103, t104⟩ : S60) [.string t103, .string t104] (fun _ => True) (fun _ => False) rfl rfl ?aP (fun _ hk => hk.elim) ?aF ?aO ?aB ?aS ?aL ?_; (case aP => exact k60_mkM _ _ _ (⟨t103, t104⟩ : S60)); (case aB => exact (bh_ HB)); (case aF => exact (fun _ _ => trivial)); (case aO => exact (by (with_reducible repeat (first | apply Kd.R_alloc | apply Kd.R_drewN | apply Kd.R_drew)); exact HO_4.out)); (case aS => exact (below_size (bh_ HB))); (case aL => have := LMc14.out; omega); intro v110 w17 ho hb hg hat; rw [← Ny109.out] at ho; have HO111 := Aside0.mk (ho); replace HB := Aside0.mk (hb); clear HO_4; clear ho hb hg hat))
             go_roundg kj6
             case measure => have := HK1.out; have := HJ6.out; omega
             case rel => exact ⟨(y109), (wrap64 (x17_1 + 1)), (by first | rfl | (simp; done) | (simp [*]; done)), H', ⟨by have := HK1.out; have := HJ6.out; omega⟩, ⟨by (with_reducible repeat (first | apply Kd.R_alloc | apply Kd.R_drewN | apply Kd.R_drew)); exact HO111.out⟩, ⟨bh_ HB⟩⟩
            ·rw [if_neg c14] at H
             exact absurd H (by simp)
           ·rw [if_neg c13] at H
            have c13b0 : (t103.toList == ([99, 111, 110, 118] : List UInt8)) = false := beq_eq_false_iff_ne.mpr c13
            have c13b1 : (t103.toList != ([99, 111, 110, 118] : List UInt8)) = true := bne_iff_ne.mpr c13
            by_cases c18 : t103.toList = ([105, 102, 108, 97, 103] : List UInt8)
            ·rw [if_pos c18] at H
             have c18b0 : (t103.toList == ([105, 102, 108, 97, 103] : List UInt8)) = true := beq_iff_eq.mpr c18
             have c18b1 : (t103.toList != ([105, 102, 108, 97, 103] : List UInt8)) = false := bne_eq_false_iff_eq.mpr c18
             clear c18
             by_cases c19 : x4_1.length < 4398046511104
             ·rw [if_pos c19] at H
              have LMc19 := Aside0.mk c19
              clear c19
              obtain ⟨y112, hy112⟩ : ∃ y_ : List (S60), y_ = (x4_1 ++ [(⟨t103, t104⟩ : S60)]) := ⟨_, rfl⟩
              replace H : (arg_Operands.l0 kj6 y112 l0 (l0.length : Int) (wrap64 (x17_1 + 1))) = some (r1, r2) := by first | (rw [hy112]; with_reducible exact H) | (have H2_ := (Option.bind_some _ _).symm.trans H; rw [hy112]; with_reducible exact H2_) | (have H2_ := (Option.bind_some _ _).symm.trans H; with_reducible exact H2_) | with_reducible exact H | (rw [hy112]; exact H) | exact H
              have Ny112 := Aside0.mk hy112
              clear hy112
              have H' := Aside0.mk H
              clear H
              obtain ⟨Ao20, co20, eo20⟩ := Kd.R_slice HO_4.out
              subst eo20
              go_wp2_with (first | ((with_reducible refine gate_callee (f := 21) rfl ?_); refine gl_ (some 37) rfl rfl Tryd.func21 (by kernel_rfl) rfl #[.slice Ao20 x4_1.length co20, .string t103] rfl ?_; (with_reducible refine (arg_Find.calls _ _ x4_1 t103 t107 true _ ?side1 ?side2 A11.out).mono ?_); (case side1 => repeat (first | exact (Kd.R_reads' HO_4.out).2.2 | (with_reducible refine Kd.C_alloc ?_ _) | (with_reducible refine Kd.C_drewN ?_ _) | (with_reducible refine Kd.C_drew ?_))); (case side2 => exact (Kd.R_reads' HO_4.out).2.1); rintro e w21 ⟨rfl, hb⟩; refine ⟨_, rfl, ?_⟩; have n0_ := Aside0.mk (Kd.R_below (by (with_reducible repeat (first | apply Kd.R_alloc | apply Kd.R_drewN | apply Kd.R_drew)); exact HO_4.out) hb); have n1_ := bs_ HB hb; clear HO_4; clear HB; have HO_4 := n0_; have HB := n1_; clear n0_ n1_; (try clear hb)) | ((with_reducible refine gate_builtin (b := .append) (xs := #[.tmp 49, .tmp 53]) rfl ?_); at_builtin; refine Kd.R_append k60 (w0 := w) w.heap.size rfl (.tmp 49) (.tmp 53) 37 60 (.agg #[(.string ⟨#[]⟩), (.string ⟨#[]⟩)]) 32 rfl Tryd.underlying37 info60 rfl (by decide) (by omega) (.slice Ao20 x4_1.length co20) x4_1 (⟨t103, t104⟩ : S60) [.string t103, .string t104] (fun _ => True) (fun _ => False) rfl rfl ?aP (fun _ hk => hk.elim) ?aF ?aO ?aB ?aS ?aL ?_; (case aP => exact k60_mkM _ _ _ (⟨t103, t104⟩ : S60)); (case aB => exact (bh_ HB)); (case aF => exact (fun _ _ => trivial)); (case aO => exact (by (with_reducible repeat (first | apply Kd.R_alloc | apply Kd.R_drewN | apply Kd.R_drew)); exact HO_4.out)); (case aS => exact (below_size (bh_ HB))); (case aL => have := LMc19.out; omega); intro v113 w22 ho hb hg hat; rw [← Ny112.out] at ho; have HO114 := Aside0.mk (ho); replace HB := Aside0.mk (hb); clear HO_4; clear ho hb hg hat))
              go_roundg kj6
              case measure => have := HK1.out; have := HJ6.out; omega
              case rel => exact ⟨(y112), (wrap64 (x17_1 + 1)), (by first | rfl | (simp; done) | (simp [*]; done)), H', ⟨by have := HK1.out; have := HJ6.out; omega⟩, ⟨by (with_reducible repeat (first | apply Kd.R_alloc | apply Kd.R_drewN | apply Kd.R_drew)); exact HO114.out⟩, ⟨bh_ HB⟩⟩
             ·rw [if_neg c19] at H
              exact absurd H (by simp)
            ·rw [if_neg c18] at H
             have c18b0 : (t103.toList == ([105, 102, 108, 97, 103] : List UInt8)) = false := beq_eq_false_iff_ne.mpr c18
             have c18b1 : (t103.toList != ([105, 102, 108, 97, 103] : List UInt8)) = true := bne_iff_ne.mpr c18
             simp only [Option.some.injEq, Prod.mk.injEq] at H
             obtain ⟨rfl, rfl⟩ := H
             obtain ⟨Ao23, co23, eo23⟩ := Kd.R_slice HO_4.out
             subst eo23
             go_wp2_with (first | ((with_reducible refine gate_callee (f := 21) rfl ?_); refine gl_ (some 37) rfl rfl Tryd.func21 (by kernel_rfl) rfl #[.slice Ao23 x4_1.length co23, .string t103] rfl ?_; (with_reducible refine (arg_Find.calls _ _ x4_1 t103 t107 true _ ?side1 ?side2 A11.out).mono ?_); (case side1 => repeat (first | exact (Kd.R_reads' HO_4.out).2.2 | (with_reducible refine Kd.C_alloc ?_ _) | (with_reducible refine Kd.C_drewN ?_ _) | (with_reducible refine Kd.C_drew ?_))); (case side2 => exact (Kd.R_reads' HO_4.out).2.1); rintro e w24 ⟨rfl, hb⟩; refine ⟨_, rfl, ?_⟩; have n0_ := Aside0.mk (Kd.R_below (by (with_reducible repeat (first | apply Kd.R_alloc | apply Kd.R_drewN | apply Kd.R_drew)); exact HO_4.out) hb); have n1_ := bs_ HB hb; clear HO_4; clear HB; have HO_4 := n0_; have HB := n1_; clear n0_ n1_; (try clear hb)))
             go_ret2
             exact ⟨_, by first | rfl | (simp [errW_none, errW_some] <;> rfl) | (simp [*, errW_none, errW_some] <;> rfl), by first | exact Kd.R_nil _ _ _ _ _ | exact Kd.N_nil _ _ _ _ _ | exact Kd.V_nil _ _ _ _ _ | exact Kd.Q_nil _ _ _ _ _ | exact Kd.S_nil _ _ _ _ _, bh_ HB⟩
          ·replace c12 := Bool.eq_false_iff.mpr c12
           subst c12
           have H1 : (if x4_1.length < 4398046511104 then (arg_Operands.l0 kj6 (x4_1 ++ [(⟨t103, t104⟩ : S60)]) l0 (l0.length : Int) (wrap64 (x17_1 + 1))) else (none)) = some (r1, r2) := by rw [if_neg (show ¬ (false = true) by decide)] at H; exact H
           clear H
           have H := H1
           clear H1
           by_cases c25 : x4_1.length < 4398046511104
           ·rw [if_pos c25] at H
            have LMc25 := Aside0.mk c25
            clear c25
            obtain ⟨y115, hy115⟩ : ∃ y_ : List (S60), y_ = (x4_1 ++ [(⟨t103, t104⟩ : S60)]) := ⟨_, rfl⟩
            replace H : (arg_Operands.l0 kj6 y115 l0 (l0.length : Int) (wrap64 (x17_1 + 1))) = some (r1, r2) := by first | (rw [hy115]; with_reducible exact H) | (have H2_ := (Option.bind_some _ _).symm.trans H; rw [hy115]; with_reducible exact H2_) | (have H2_ := (Option.bind_some _ _).symm.trans H; with_reducible exact H2_) | with_reducible exact H | (rw [hy115]; exact H) | exact H
            have Ny115 := Aside0.mk hy115
            clear hy115
            have H' := Aside0.mk H
            clear H
            obtain ⟨Ao26, co26, eo26⟩ := Kd.R_slice HO_4.out
            subst eo26
            go_wp2_with (first | ((with_reducible refine gate_callee (f := 21) rfl ?_); refine gl_ (some 37) rfl rfl Tryd.func21 (by kernel_rfl) rfl #[.slice Ao26 x4_1.length co26, .string t103] rfl ?_; (with_reducible refine (arg_Find.calls _ _ x4_1 t103 t107 false _ ?side1 ?side2 A11.out).mono ?_); (case side1 => repeat (first | exact (Kd.R_reads' HO_4.out).2.2 | (with_reducible refine Kd.C_alloc ?_ _) | (with_reducible refine Kd.C_drewN ?_ _) | (with_reducible refine Kd.C_drew ?_))); (case side2 => exact (Kd.R_reads' HO_4.out).2.1); rintro e w27 ⟨rfl, hb⟩; refine ⟨_, rfl, ?_⟩; have n0_ := Aside0.mk (Kd.R_below (by (with_reducible repeat (first | apply Kd.R_alloc | apply Kd.R_drewN | apply Kd.R_drew)); exact HO_4.out) hb); have n1_ := bs_ HB hb; clear HO_4; clear HB; have HO_4 := n0_; have HB := n1_; clear n0_ n1_; (try clear hb)) | ((with_reducible refine gate_builtin (b := .append) (xs := #[.tmp 49, .tmp 53]) rfl ?_); at_builtin; refine Kd.R_append k60 (w0 := w) w.heap.size rfl (.tmp 49) (.tmp 53) 37 60 (.agg #[(.string ⟨#[]⟩), (.string ⟨#[]⟩)]) 32 rfl Tryd.underlying37 info60 rfl (by decide) (by omega) (.slice Ao26 x4_1.length co26) x4_1 (⟨t103, t104⟩ : S60) [.string t103, .string t104] (fun _ => True) (fun _ => False) rfl rfl ?aP (fun _ hk => hk.elim) ?aF ?aO ?aB ?aS ?aL ?_; (case aP => exact k60_mkM _ _ _ (⟨t103, t104⟩ : S60)); (case aB => exact (bh_ HB)); (case aF => exact (fun _ _ => trivial)); (case aO => exact (by (with_reducible repeat (first | apply Kd.R_alloc | apply Kd.R_drewN | apply Kd.R_drew)); exact HO_4.out)); (case aS => exact (below_size (bh_ HB))); (case aL => have := LMc25.out; omega); intro v116 w28 ho hb hg hat; rw [← Ny115.out] at ho; have HO117 := Aside0.mk (ho); replace HB := Aside0.mk (hb); clear HO_4; clear ho hb hg hat))
            go_roundg kj6
            case measure => have := HK1.out; have := HJ6.out; omega
            case rel => exact ⟨(y115), (wrap64 (x17_1 + 1)), (by first | rfl | (simp; done) | (simp [*]; done)), H', ⟨by have := HK1.out; have := HJ6.out; omega⟩, ⟨by (with_reducible repeat (first | apply Kd.R_alloc | apply Kd.R_drewN | apply Kd.R_drew)); exact HO117.out⟩, ⟨bh_ HB⟩⟩
           ·rw [if_neg c25] at H
            exact absurd H (by simp)
      ·rw [if_neg c5] at H
       exact absurd H (by simp)
     ·rw [if_neg c4] at H
      exact absurd H (by simp)
    ·rw [if_neg c3] at H
     have c3b0 : decide (x17_1 < (l0.length : Int)) = false := decide_eq_false c3
     clear c3
     simp only [Option.some.injEq, Prod.mk.injEq] at H
     obtain ⟨rfl, rfl⟩ := H
     go_wp2
     go_ret2
     exact ⟨_, by first | rfl | (simp [errW_none, errW_some] <;> rfl) | (simp [*, errW_none, errW_some] <;> rfl), by (with_reducible repeat (first | apply Kd.R_alloc | apply Kd.R_drewN | apply Kd.R_drew)); exact HO_4.out, bh_ HB⟩

end Go.Proofs.YtbmhfnncagncmaaDoor.P
