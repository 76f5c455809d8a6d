/- Laid by a program of this session's own (wip/wprint.py, over the kit's print.py): functions of the given program as plain Lean functions, and that the program's calls come to their answers. -/
import Derived.Test.YtlginoicaeonhaaDoorPx0
import Derived.Test.YtlginoicaeonhaaDoorPx14
import Derived.Test.YtlginoicaeonhaaDoorPx15
namespace Go.Proofs.YtlginoicaeonhaaDoor.P
open Go.RowKit Go.Proofs.YtlginoicaeonhaaDoorW.PrintWords Go.Proofs.YtlginoicaeonhaaDoorW.PrintLast Go.Proofs.YtlginoicaeonhaaDoorW.PrintMore
attribute [local go_sem] max2_int min2_int max_two min_two max_three min_three max_four min_four   -- for this text's walks alone
set_option linter.unusedVariables false
set_option linter.unusedSimpArgs false

/-! ### salvorref6_Operands: function 14 -/
def salvorref6_Operands.l0 : Nat → List ByteArray → List (S31) → Int → Option ((List (S31)) × Bool)
 | 0, _, _, _ => none
 | k + 1, x0, x4, x5 => if x5 < (x0.length : Int) then (if 0 ≤ x5 then ((salvorref6_cutAt.f k (rdOf ByteArray.empty x0 x5) 61).bind fun bt166 => (if bt166.2.2 = true then ((salvorref6_letters.f k bt166.1).bind fun t169 => (if t169 = true then ((salvorref6_has.f k x4 bt166.1).bind fun t170 => (if t170 = true then (if bt166.1.toList = ([99, 111, 110, 118] : List UInt8) then (if x4.length < 4398046511104 then (salvorref6_Operands.l0 k x0 (x4 ++ [(⟨bt166.1, bt166.2.1⟩ : S31)]) (wrap64 (x5 + 1))) else (none)) else (if bt166.1.toList = ([105, 102, 108, 97, 103] : List UInt8) then (if x4.length < 4398046511104 then (salvorref6_Operands.l0 k x0 (x4 ++ [(⟨bt166.1, bt166.2.1⟩ : S31)]) (wrap64 (x5 + 1))) else (none)) else (some (([] : List (S31)), false)))) else (if x4.length < 4398046511104 then (salvorref6_Operands.l0 k x0 (x4 ++ [(⟨bt166.1, bt166.2.1⟩ : S31)]) (wrap64 (x5 + 1))) else (none)))) else (some (([] : List (S31)), false)))) else (some (([] : List (S31)), false)))) else (none)) else (some (x4, true))
def salvorref6_Operands.f (k : Nat) (l0 : List ByteArray) : Option ((List (S31)) × Bool) := if (l0.length : Int) > 40 then (some (([] : List (S31)), false)) else (salvorref6_Operands.l0 k l0 ([] : List (S31)) 0)
theorem salvorref6_Operands.mono_l : ∀ k, (∀ y0 y1 y2, LeO (salvorref6_Operands.l0 k y0 y1 y2) (salvorref6_Operands.l0 (k + 1) y0 y1 y2))
 | 0 => fun _ _ _ r h => by simp [salvorref6_Operands.l0] at h
 | k + 1 => by
  have ih0 := salvorref6_Operands.mono_l k
  ·intro y0 y1 y2
   unfold salvorref6_Operands.l0
   repeat' first
   | (with_reducible exact ih0 _ _ _)
   | (with_reducible exact salvorref6_cutAt.mono _ _ _)
   | (with_reducible exact salvorref6_has.mono _ _ _)
   | (with_reducible exact salvorref6_letters.mono _ _)
   | (with_reducible exact LeO.refl _)
   | (with_reducible exact LeO.none _)
   | (with_reducible refine LeO.ite ?_ ?_)
   | (with_reducible refine LeO.bind ?_ (fun _ => ?_))
   | exact ih0 _ _ _
   | exact salvorref6_cutAt.mono _ _ _
   | exact salvorref6_has.mono _ _ _
   | exact salvorref6_letters.mono _ _
   | exact LeO.none _
   | refine LeO.ite ?_ ?_
   | refine LeO.bind ?_ (fun _ => ?_)
theorem salvorref6_Operands.mono : ∀ a0 k, LeO (salvorref6_Operands.f k a0) (salvorref6_Operands.f (k + 1) a0) := by
 intro a0 k
 have ih0 := salvorref6_Operands.mono_l k
 unfold salvorref6_Operands.f
 repeat' first
   | (with_reducible exact ih0 _ _ _)
   | (with_reducible exact salvorref6_cutAt.mono _ _ _)
   | (with_reducible exact salvorref6_has.mono _ _ _)
   | (with_reducible exact salvorref6_letters.mono _ _)
   | (with_reducible exact LeO.refl _)
   | (with_reducible exact LeO.none _)
   | (with_reducible refine LeO.ite ?_ ?_)
   | (with_reducible refine LeO.bind ?_ (fun _ => ?_))
   | exact ih0 _ _ _
   | exact salvorref6_cutAt.mono _ _ _
   | exact salvorref6_has.mono _ _ _
   | exact salvorref6_letters.mono _ _
   | exact LeO.none _
   | refine LeO.ite ?_ ?_
   | refine LeO.bind ?_ (fun _ => ?_)
set_option maxHeartbeats 8000000 in
set_option maxRecDepth 100000 in
theorem salvorref6_Operands.calls (k : Nat) (A0 : Option Addr) (c0 : Nat) (l0 : List ByteArray) (r1 : List (S31)) (r2 : Bool) (w : World) (hr0 : Kd.C Kd.string w A0 l0.length l0) (hc0 : l0.length ≤ c0) (h : salvorref6_Operands.f k l0 = some (r1, r2)) :
  Calls Tryd.prog 14 #[.slice A0 l0.length c0] w fun e w' => ∃ v0_ : Value, e = .returned (.tuple #[v0_, .bool r2]) ∧ Kd.R k31 31 w' w.heap.size (fun _ => True) v0_ r1 ∧ Below w.heap.size w w' := by
 have hu31 := Tryd.underlying31
 have HR0 := Aside0.mk hr0
 have HC0 := Aside0.mk hc0
 clear hr0 hc0
 have HB := Aside0.mk (Below.refl w.heap.size w)
 have H : (if (l0.length : Int) > 40 then (some (([] : List (S31)), false)) else (salvorref6_Operands.l0 k l0 ([] : List (S31)) 0)) = some (r1, r2) := h
 clear h
 by_cases c2 : (l0.length : Int) > 40
 ·rw [if_pos c2] at H
  have c2b0 : decide (40 < (l0.length : Int)) = true := decide_eq_true c2
  have c2b1 : decide (40 < l0.length) = true := decide_eq_true (by omega)
  clear c2
  simp only [Option.some.injEq, Prod.mk.injEq] at H
  obtain ⟨rfl, rfl⟩ := H
  go_enter Tryd.func14, Tryd.ntmps14
  go_wp2
  go_ret2
  exact ⟨_, by first | rfl | (simp [errW_none, errW_some] <;> rfl) | (simp [*, errW_none, errW_some] <;> rfl), by first | exact Kd.R_nil _ _ _ _ _ | exact Kd.N_nil _ _ _ _ _ | exact Kd.V_nil _ _ _ _ _ | exact Kd.Q_nil _ _ _ _ _ | exact Kd.S_nil _ _ _ _ _, bh_ HB⟩
 ·rw [if_neg c2] at H
  have c2b0 : decide (40 < (l0.length : Int)) = false := decide_eq_false c2
  have c2b1 : decide (40 < l0.length) = false := decide_eq_false (by omega)
  clear c2
  have H' := Aside0.mk H
  clear H
  go_enter Tryd.func14, Tryd.ntmps14
  go_wp2
  go_loopg [4, 5] k (fun kq v4 v5 w' => ∃ (x4_1 : List (S31)) (x5_1 : Int), v5 = .int .i64 x5_1 ∧ Aside0 (salvorref6_Operands.l0 kq l0 x4_1 x5_1 = some (r1, r2)) ∧ Aside0 (kq ≤ k) ∧ Aside0 (Kd.R k31 31 w' w.heap.size (fun _ => True) v4 x4_1) ∧ Aside0 (Below w.heap.size w w'))
  case atStart => exact ⟨(([] : List (S31))), (0), (by first | rfl | (simp; done) | (simp [*]; done)), H', ⟨Nat.le_refl _⟩, ⟨by first | exact Kd.R_nil _ _ _ _ _ | exact Kd.N_nil _ _ _ _ _ | exact Kd.V_nil _ _ _ _ _ | exact Kd.Q_nil _ _ _ _ _ | exact Kd.S_nil _ _ _ _ _⟩, ⟨bh_ HB⟩⟩
  case round =>
   clear H'
   try clear c1
   try clear c2
   try clear c2b0
   try clear c2b1
   try clear p2
   obtain ⟨x4_1, x5_1, rfl, HA, HK1, HO_4, HB⟩ := hrel
   cases gk with
   | zero => exact absurd HA.out (by simp [salvorref6_Operands.l0])
   | succ k1 =>
    have H := HA.out
    clear HA
    simp only [salvorref6_Operands.l0] at H
    by_cases c3 : x5_1 < (l0.length : Int)
    ·rw [if_pos c3] at H
     have c3b0 : decide (x5_1 < (l0.length : Int)) = true := decide_eq_true c3
     clear c3
     by_cases c4 : 0 ≤ x5_1
     ·rw [if_pos c4] at H
      have c4b0 : decide (0 ≤ x5_1) = true := decide_eq_true c4
      clear c4
      replace H := Option.bind_eq_some_iff.mp H
      obtain ⟨⟨t166, t167, t168⟩, A50, H⟩ := H
      replace H : (if t168 = true then ((salvorref6_letters.f k1 t166).bind fun t169 => (if t169 = true then ((salvorref6_has.f k1 x4_1 t166).bind fun t170 => (if t170 = true then (if t166.toList = ([99, 111, 110, 118] : List UInt8) then (if x4_1.length < 4398046511104 then (salvorref6_Operands.l0 k1 l0 (x4_1 ++ [(⟨t166, t167⟩ : S31)]) (wrap64 (x5_1 + 1))) else (none)) else (if t166.toList = ([105, 102, 108, 97, 103] : List UInt8) then (if x4_1.length < 4398046511104 then (salvorref6_Operands.l0 k1 l0 (x4_1 ++ [(⟨t166, t167⟩ : S31)]) (wrap64 (x5_1 + 1))) else (none)) else (some (([] : List (S31)), false)))) else (if x4_1.length < 4398046511104 then (salvorref6_Operands.l0 k1 l0 (x4_1 ++ [(⟨t166, t167⟩ : S31)]) (wrap64 (x5_1 + 1))) else (none)))) else (some (([] : List (S31)), false)))) else (some (([] : List (S31)), false))) = some (r1, r2) := H
      have A5 := Aside0.mk A50
      clear A50
      by_cases c6 : t168 = true
      ·subst c6
       have H1 : ((salvorref6_letters.f k1 t166).bind fun t169 => (if t169 = true then ((salvorref6_has.f k1 x4_1 t166).bind fun t170 => (if t170 = true then (if t166.toList = ([99, 111, 110, 118] : List UInt8) then (if x4_1.length < 4398046511104 then (salvorref6_Operands.l0 k1 l0 (x4_1 ++ [(⟨t166, t167⟩ : S31)]) (wrap64 (x5_1 + 1))) else (none)) else (if t166.toList = ([105, 102, 108, 97, 103] : List UInt8) then (if x4_1.length < 4398046511104 then (salvorref6_Operands.l0 k1 l0 (x4_1 ++ [(⟨t166, t167⟩ : S31)]) (wrap64 (x5_1 + 1))) else (none)) else (some (([] : List (S31)), false)))) else (if x4_1.length < 4398046511104 then (salvorref6_Operands.l0 k1 l0 (x4_1 ++ [(⟨t166, t167⟩ : S31)]) (wrap64 (x5_1 + 1))) else (none)))) else (some (([] : List (S31)), false)))) = some (r1, r2) := by rw [if_pos rfl] at H; exact H
       clear H
       have H := H1
       clear H1
       replace H := Option.bind_eq_some_iff.mp H
       obtain ⟨t169, A70, H⟩ := H
       replace H : (if t169 = true then ((salvorref6_has.f k1 x4_1 t166).bind fun t170 => (if t170 = true then (if t166.toList = ([99, 111, 110, 118] : List UInt8) then (if x4_1.length < 4398046511104 then (salvorref6_Operands.l0 k1 l0 (x4_1 ++ [(⟨t166, t167⟩ : S31)]) (wrap64 (x5_1 + 1))) else (none)) else (if t166.toList = ([105, 102, 108, 97, 103] : List UInt8) then (if x4_1.length < 4398046511104 then (salvorref6_Operands.l0 k1 l0 (x4_1 ++ [(⟨t166, t167⟩ : S31)]) (wrap64 (x5_1 + 1))) else (none)) else (some (([] : List (S31)), false)))) else (if x4_1.length < 4398046511104 then (salvorref6_Operands.l0 k1 l0 (x4_1 ++ [(⟨t166, t167⟩ : S31)]) (wrap64 (x5_1 + 1))) else (none)))) else (some (([] : List (S31)), false))) = some (r1, r2) := H
       have A7 := Aside0.mk A70
       clear A70
       by_cases c8 : t169 = true
       ·subst c8
        have H1 : ((salvorref6_has.f k1 x4_1 t166).bind fun t170 => (if t170 = true then (if t166.toList = ([99, 111, 110, 118] : List UInt8) then (if x4_1.length < 4398046511104 then (salvorref6_Operands.l0 k1 l0 (x4_1 ++ [(⟨t166, t167⟩ : S31)]) (wrap64 (x5_1 + 1))) else (none)) else (if t166.toList = ([105, 102, 108, 97, 103] : List UInt8) then (if x4_1.length < 4398046511104 then (salvorref6_Operands.l0 k1 l0 (x4_1 ++ [(⟨t166, t167⟩ : S31)]) (wrap64 (x5_1 + 1))) else (none)) else (some (([] : List (S31)), false)))) else (if x4_1.length < 4398046511104 then (salvorref6_Operands.l0 k1 l0 (x4_1 ++ [(⟨t166, t167⟩ : S31)]) (wrap64 (x5_1 + 1))) else (none)))) = some (r1, r2) := by rw [if_pos rfl] at H; exact H
        clear H
        have H := H1
        clear H1
        replace H := Option.bind_eq_some_iff.mp H
        obtain ⟨t170, A90, H⟩ := H
        replace H : (if t170 = true then (if t166.toList = ([99, 111, 110, 118] : List UInt8) then (if x4_1.length < 4398046511104 then (salvorref6_Operands.l0 k1 l0 (x4_1 ++ [(⟨t166, t167⟩ : S31)]) (wrap64 (x5_1 + 1))) else (none)) else (if t166.toList = ([105, 102, 108, 97, 103] : List UInt8) then (if x4_1.length < 4398046511104 then (salvorref6_Operands.l0 k1 l0 (x4_1 ++ [(⟨t166, t167⟩ : S31)]) (wrap64 (x5_1 + 1))) else (none)) else (some (([] : List (S31)), false)))) else (if x4_1.length < 4398046511104 then (salvorref6_Operands.l0 k1 l0 (x4_1 ++ [(⟨t166, t167⟩ : S31)]) (wrap64 (x5_1 + 1))) else (none))) = some (r1, r2) := H
        have A9 := Aside0.mk A90
        clear A90
        by_cases c10 : t170 = true
        ·subst c10
         have H1 : (if t166.toList = ([99, 111, 110, 118] : List UInt8) then (if x4_1.length < 4398046511104 then (salvorref6_Operands.l0 k1 l0 (x4_1 ++ [(⟨t166, t167⟩ : S31)]) (wrap64 (x5_1 + 1))) else (none)) else (if t166.toList = ([105, 102, 108, 97, 103] : List UInt8) then (if x4_1.length < 4398046511104 then (salvorref6_Operands.l0 k1 l0 (x4_1 ++ [(⟨t166, t167⟩ : S31)]) (wrap64 (x5_1 + 1))) else (none)) else (some (([] : List (S31)), false)))) = some (r1, r2) := by rw [if_pos rfl] at H; exact H
         clear H
         have H := H1
         clear H1
         by_cases c11 : t166.toList = ([99, 111, 110, 118] : List UInt8)
         ·rw [if_pos c11] at H
          have c11b0 : (t166.toList == ([99, 111, 110, 118] : List UInt8)) = true := beq_iff_eq.mpr c11
          have c11b1 : (t166.toList != ([99, 111, 110, 118] : List UInt8)) = false := bne_eq_false_iff_eq.mpr c11
          clear c11
          by_cases c12 : x4_1.length < 4398046511104
          ·rw [if_pos c12] at H
           have LMc12 := Aside0.mk c12
           clear c12
           obtain ⟨y171, hy171⟩ : ∃ y_ : List (S31), y_ = (x4_1 ++ [(⟨t166, t167⟩ : S31)]) := ⟨_, rfl⟩
           replace H : (salvorref6_Operands.l0 k1 l0 y171 (wrap64 (x5_1 + 1))) = some (r1, r2) := by first | (rw [hy171]; with_reducible exact H) | (have H2_ := (Option.bind_some _ _).symm.trans H; rw [hy171]; with_reducible exact H2_) | (have H2_ := (Option.bind_some _ _).symm.trans H; with_reducible exact H2_) | with_reducible exact H | (rw [hy171]; exact H) | exact H
           have Ny171 := Aside0.mk hy171
           clear hy171
           have H' := Aside0.mk H
           clear H
           have p165 : 0 ≤ (x5_1 : Int) := of_decide_eq_true (by first | (with_reducible assumption) | assumption)
           have q165 : x5_1 < (l0.length : Int) := of_decide_eq_true (by first | (with_reducible assumption) | assumption)
           obtain ⟨ad165, e165, hx165_0⟩ := Kd.at_string HR0.out x5_1 p165 q165
           cases e165
           replace hx165_0 := (HB.out.cell (World.block_lt_of_cell? w _ hx165_0)).trans hx165_0
           replace p165 := eq_true p165
           replace q165 := eq_true q165
           go_wp2_with (first | ((with_reducible refine gate_callee (f := 28) rfl ?_); refine gl_ (some 23) rfl rfl Tryd.func28 (by kernel_rfl) rfl #[.string (rdOf ByteArray.empty l0 x5_1), .int .u8 61] rfl ?_; (with_reducible refine (salvorref6_cutAt.calls k1 (rdOf ByteArray.empty l0 x5_1) 61 t166 t167 true _ A5.out).mono ?_); rintro e w' ⟨rfl, ⟨nd, rfl⟩⟩; refine ⟨_, rfl, ?_⟩) | (go_at_call 29; (with_reducible refine (salvorref6_letters.calls k1 t166 true _ A7.out).mono ?_); rintro e w' ⟨rfl, ⟨nd, rfl⟩⟩; obtain ⟨Ao13, co13, eo13⟩ := Kd.R_slice HO_4.out; subst eo13) | (go_at_call 30; (with_reducible refine (salvorref6_has.calls k1 _ _ x4_1 t166 true _ ?side1 ?side2 A9.out).mono ?_); (case side1 => repeat (first | exact (Kd.R_reads' HO_4.out).2.2 | (with_reducible refine Kd.C_alloc ?_ _) | (with_reducible refine Kd.C_drewN ?_ _) | (with_reducible refine Kd.C_drew ?_))); (case side2 => exact (Kd.R_reads' HO_4.out).2.1); rintro e w' ⟨rfl, ⟨nd, rfl⟩⟩) | ((with_reducible refine gate_builtin (b := .append) (xs := #[.tmp 47, .tmp 51]) rfl ?_); at_builtin; refine Kd.R_append k31 (w0 := w) w.heap.size rfl (.tmp 47) (.tmp 51) 22 31 (.agg #[(.string ⟨#[]⟩), (.string ⟨#[]⟩)]) 32 rfl Tryd.underlying22 info31 rfl (by decide) (by omega) (.slice Ao13 x4_1.length co13) x4_1 (⟨t166, t167⟩ : S31) [.string t166, .string t167] (fun _ => True) (fun _ => False) rfl rfl ?aP (fun _ hk => hk.elim) ?aF ?aO ?aB ?aS ?aL ?_; (case aP => exact k31_mkM _ _ _ (⟨t166, t167⟩ : S31)); (case aB => exact (bh_ HB)); (case aF => exact (fun _ _ => trivial)); (case aO => exact (by (with_reducible repeat (first | apply Kd.R_alloc | apply Kd.R_drewN | apply Kd.R_drew)); exact HO_4.out)); (case aS => exact (below_size (bh_ HB))); (case aL => have := LMc12.out; omega); intro v172 w14 ho hb hg hat; rw [← Ny171.out] at ho; have HO173 := Aside0.mk (ho); replace HB := Aside0.mk (hb); clear HO_4; clear ho hb hg hat))
           go_roundg k1
           case measure => have := HK1.out; omega
           case rel => exact ⟨(y171), (wrap64 (x5_1 + 1)), (by first | rfl | (simp; done) | (simp [*]; done)), H', ⟨by have := HK1.out; omega⟩, ⟨by (with_reducible repeat (first | apply Kd.R_alloc | apply Kd.R_drewN | apply Kd.R_drew)); exact HO173.out⟩, ⟨bh_ HB⟩⟩
          ·rw [if_neg c12] at H
           exact absurd H (by simp)
         ·rw [if_neg c11] at H
          have c11b0 : (t166.toList == ([99, 111, 110, 118] : List UInt8)) = false := beq_eq_false_iff_ne.mpr c11
          have c11b1 : (t166.toList != ([99, 111, 110, 118] : List UInt8)) = true := bne_iff_ne.mpr c11
          by_cases c15 : t166.toList = ([105, 102, 108, 97, 103] : List UInt8)
          ·rw [if_pos c15] at H
           have c15b0 : (t166.toList == ([105, 102, 108, 97, 103] : List UInt8)) = true := beq_iff_eq.mpr c15
           have c15b1 : (t166.toList != ([105, 102, 108, 97, 103] : List UInt8)) = false := bne_eq_false_iff_eq.mpr c15
           clear c15
           by_cases c16 : x4_1.length < 4398046511104
           ·rw [if_pos c16] at H
            have LMc16 := Aside0.mk c16
            clear c16
            obtain ⟨y174, hy174⟩ : ∃ y_ : List (S31), y_ = (x4_1 ++ [(⟨t166, t167⟩ : S31)]) := ⟨_, rfl⟩
            replace H : (salvorref6_Operands.l0 k1 l0 y174 (wrap64 (x5_1 + 1))) = some (r1, r2) := by first | (rw [hy174]; with_reducible exact H) | (have H2_ := (Option.bind_some _ _).symm.trans H; rw [hy174]; with_reducible exact H2_) | (have H2_ := (Option.bind_some _ _).symm.trans H; with_reducible exact H2_) | with_reducible exact H | (rw [hy174]; exact H) | exact H
            have Ny174 := Aside0.mk hy174
            clear hy174
            have H' := Aside0.mk H
            clear H
            have p165 : 0 ≤ (x5_1 : Int) := of_decide_eq_true (by first | (with_reducible assumption) | assumption)
            have q165 : x5_1 < (l0.length : Int) := of_decide_eq_true (by first | (with_reducible assumption) | assumption)
            obtain ⟨ad165, e165, hx165_0⟩ := Kd.at_string HR0.out x5_1 p165 q165
            cases e165
            replace hx165_0 := (HB.out.cell (World.block_lt_of_cell? w _ hx165_0)).trans hx165_0
            replace p165 := eq_true p165
            replace q165 := eq_true q165
            go_wp2_with (first | ((with_reducible refine gate_callee (f := 28) rfl ?_); refine gl_ (some 23) rfl rfl Tryd.func28 (by kernel_rfl) rfl #[.string (rdOf ByteArray.empty l0 x5_1), .int .u8 61] rfl ?_; (with_reducible refine (salvorref6_cutAt.calls k1 (rdOf ByteArray.empty l0 x5_1) 61 t166 t167 true _ A5.out).mono ?_); rintro e w' ⟨rfl, ⟨nd, rfl⟩⟩; refine ⟨_, rfl, ?_⟩) | (go_at_call 29; (with_reducible refine (salvorref6_letters.calls k1 t166 true _ A7.out).mono ?_); rintro e w' ⟨rfl, ⟨nd, rfl⟩⟩; obtain ⟨Ao17, co17, eo17⟩ := Kd.R_slice HO_4.out; subst eo17) | (go_at_call 30; (with_reducible refine (salvorref6_has.calls k1 _ _ x4_1 t166 true _ ?side1 ?side2 A9.out).mono ?_); (case side1 => repeat (first | exact (Kd.R_reads' HO_4.out).2.2 | (with_reducible refine Kd.C_alloc ?_ _) | (with_reducible refine Kd.C_drewN ?_ _) | (with_reducible refine Kd.C_drew ?_))); (case side2 => exact (Kd.R_reads' HO_4.out).2.1); rintro e w' ⟨rfl, ⟨nd, rfl⟩⟩) | ((with_reducible refine gate_builtin (b := .append) (xs := #[.tmp 47, .tmp 51]) rfl ?_); at_builtin; refine Kd.R_append k31 (w0 := w) w.heap.size rfl (.tmp 47) (.tmp 51) 22 31 (.agg #[(.string ⟨#[]⟩), (.string ⟨#[]⟩)]) 32 rfl Tryd.underlying22 info31 rfl (by decide) (by omega) (.slice Ao17 x4_1.length co17) x4_1 (⟨t166, t167⟩ : S31) [.string t166, .string t167] (fun _ => True) (fun _ => False) rfl rfl ?aP (fun _ hk => hk.elim) ?aF ?aO ?aB ?aS ?aL ?_; (case aP => exact k31_mkM _ _ _ (⟨t166, t167⟩ : S31)); (case aB => exact (bh_ HB)); (case aF => exact (fun _ _ => trivial)); (case aO => exact (by (with_reducible repeat (first | apply Kd.R_alloc | apply Kd.R_drewN | apply Kd.R_drew)); exact HO_4.out)); (case aS => exact (below_size (bh_ HB))); (case aL => have := LMc16.out; omega); intro v175 w18 ho hb hg hat; rw [← Ny174.out] at ho; have HO176 := Aside0.mk (ho); replace HB := Aside0.mk (hb); clear HO_4; clear ho hb hg hat))
            go_roundg k1
            case measure => have := HK1.out; omega
            case rel => exact ⟨(y174), (wrap64 (x5_1 + 1)), (by first | rfl | (simp; done) | (simp [*]; done)), H', ⟨by have := HK1.out; omega⟩, ⟨by (with_reducible repeat (first | apply Kd.R_alloc | apply Kd.R_drewN | apply Kd.R_drew)); exact HO176.out⟩, ⟨bh_ HB⟩⟩
           ·rw [if_neg c16] at H
            exact absurd H (by simp)
          ·rw [if_neg c15] at H
           have c15b0 : (t166.toList == ([105, 102, 108, 97, 103] : List UInt8)) = false := beq_eq_false_iff_ne.mpr c15
           have c15b1 : (t166.toList != ([105, 102, 108, 97, 103] : List UInt8)) = true := bne_iff_ne.mpr c15
           simp only [Option.some.injEq, Prod.mk.injEq] at H
           obtain ⟨rfl, rfl⟩ := H
           have p165 : 0 ≤ (x5_1 : Int) := of_decide_eq_true (by first | (with_reducible assumption) | assumption)
           have q165 : x5_1 < (l0.length : Int) := of_decide_eq_true (by first | (with_reducible assumption) | assumption)
           obtain ⟨ad165, e165, hx165_0⟩ := Kd.at_string HR0.out x5_1 p165 q165
           cases e165
           replace hx165_0 := (HB.out.cell (World.block_lt_of_cell? w _ hx165_0)).trans hx165_0
           replace p165 := eq_true p165
           replace q165 := eq_true q165
           go_wp2_with (first | ((with_reducible refine gate_callee (f := 28) rfl ?_); refine gl_ (some 23) rfl rfl Tryd.func28 (by kernel_rfl) rfl #[.string (rdOf ByteArray.empty l0 x5_1), .int .u8 61] rfl ?_; (with_reducible refine (salvorref6_cutAt.calls k1 (rdOf ByteArray.empty l0 x5_1) 61 t166 t167 true _ A5.out).mono ?_); rintro e w' ⟨rfl, ⟨nd, rfl⟩⟩; refine ⟨_, rfl, ?_⟩) | (go_at_call 29; (with_reducible refine (salvorref6_letters.calls k1 t166 true _ A7.out).mono ?_); rintro e w' ⟨rfl, ⟨nd, rfl⟩⟩; obtain ⟨Ao19, co19, eo19⟩ := Kd.R_slice HO_4.out; subst eo19) | (go_at_call 30; (with_reducible refine (salvorref6_has.calls k1 _ _ x4_1 t166 true _ ?side1 ?side2 A9.out).mono ?_); (case side1 => repeat (first | exact (Kd.R_reads' HO_4.out).2.2 | (with_reducible refine Kd.C_alloc ?_ _) | (with_reducible refine Kd.C_drewN ?_ _) | (with_reducible refine Kd.C_drew ?_))); (case side2 => exact (Kd.R_reads' HO_4.out).2.1); rintro e w' ⟨rfl, ⟨nd, rfl⟩⟩))
           go_ret2
           exact ⟨_, by first | rfl | (simp [errW_none, errW_some] <;> rfl) | (simp [*, errW_none, errW_some] <;> rfl), by first | exact Kd.R_nil _ _ _ _ _ | exact Kd.N_nil _ _ _ _ _ | exact Kd.V_nil _ _ _ _ _ | exact Kd.Q_nil _ _ _ _ _ | exact Kd.S_nil _ _ _ _ _, bh_ HB⟩
        ·replace c10 := Bool.eq_false_iff.mpr c10
         subst c10
         have H1 : (if x4_1.length < 4398046511104 then (salvorref6_Operands.l0 k1 l0 (x4_1 ++ [(⟨t166, t167⟩ : S31)]) (wrap64 (x5_1 + 1))) else (none)) = some (r1, r2) := by rw [if_neg (show ¬ (false = true) by decide)] at H; exact H
         clear H
         have H := H1
         clear H1
         by_cases c20 : x4_1.length < 4398046511104
         ·rw [if_pos c20] at H
          have LMc20 := Aside0.mk c20
          clear c20
          obtain ⟨y177, hy177⟩ : ∃ y_ : List (S31), y_ = (x4_1 ++ [(⟨t166, t167⟩ : S31)]) := ⟨_, rfl⟩
          replace H : (salvorref6_Operands.l0 k1 l0 y177 (wrap64 (x5_1 + 1))) = some (r1, r2) := by first | (rw [hy177]; with_reducible exact H) | (have H2_ := (Option.bind_some _ _).symm.trans H; rw [hy177]; with_reducible exact H2_) | (have H2_ := (Option.bind_some _ _).symm.trans H; with_reducible exact H2_) | with_reducible exact H | (rw [hy177]; exact H) | exact H
          have Ny177 := Aside0.mk hy177
          clear hy177
          have H' := Aside0.mk H
          clear H
          have p165 : 0 ≤ (x5_1 : Int) := of_decide_eq_true (by first | (with_reducible assumption) | assumption)
          have q165 : x5_1 < (l0.length : Int) := of_decide_eq_true (by first | (with_reducible assumption) | assumption)
          obtain ⟨ad165, e165, hx165_0⟩ := Kd.at_string HR0.out x5_1 p165 q165
          cases e165
          replace hx165_0 := (HB.out.cell (World.block_lt_of_cell? w _ hx165_0)).trans hx165_0
          replace p165 := eq_true p165
          replace q165 := eq_true q165
          go_wp2_with (first | ((with_reducible refine gate_callee (f := 28) rfl ?_); refine gl_ (some 23) rfl rfl Tryd.func28 (by kernel_rfl) rfl #[.string (rdOf ByteArray.empty l0 x5_1), .int .u8 61] rfl ?_; (with_reducible refine (salvorref6_cutAt.calls k1 (rdOf ByteArray.empty l0 x5_1) 61 t166 t167 true _ A5.out).mono ?_); rintro e w' ⟨rfl, ⟨nd, rfl⟩⟩; refine ⟨_, rfl, ?_⟩) | (go_at_call 29; (with_reducible refine (salvorref6_letters.calls k1 t166 true _ A7.out).mono ?_); rintro e w' ⟨rfl, ⟨nd, rfl⟩⟩; obtain ⟨Ao21, co21, eo21⟩ := Kd.R_slice HO_4.out; subst eo21) | (go_at_call 30; (with_reducible refine (salvorref6_has.calls k1 _ _ x4_1 t166 false _ ?side1 ?side2 A9.out).mono ?_); (case side1 => repeat (first | exact (Kd.R_reads' HO_4.out).2.2 | (with_reducible refine Kd.C_alloc ?_ _) | (with_reducible refine Kd.C_drewN ?_ _) | (with_reducible refine Kd.C_drew ?_))); (case side2 => exact (Kd.R_reads' HO_4.out).2.1); rintro e w' ⟨rfl, ⟨nd, rfl⟩⟩) | ((with_reducible refine gate_builtin (b := .append) (xs := #[.tmp 47, .tmp 51]) rfl ?_); at_builtin; refine Kd.R_append k31 (w0 := w) w.heap.size rfl (.tmp 47) (.tmp 51) 22 31 (.agg #[(.string ⟨#[]⟩), (.string ⟨#[]⟩)]) 32 rfl Tryd.underlying22 info31 rfl (by decide) (by omega) (.slice Ao21 x4_1.length co21) x4_1 (⟨t166, t167⟩ : S31) [.string t166, .string t167] (fun _ => True) (fun _ => False) rfl rfl ?aP (fun _ hk => hk.elim) ?aF ?aO ?aB ?aS ?aL ?_; (case aP => exact k31_mkM _ _ _ (⟨t166, t167⟩ : S31)); (case aB => exact (bh_ HB)); (case aF => exact (fun _ _ => trivial)); (case aO => exact (by (with_reducible repeat (first | apply Kd.R_alloc | apply Kd.R_drewN | apply Kd.R_drew)); exact HO_4.out)); (case aS => exact (below_size (bh_ HB))); (case aL => have := LMc20.out; omega); intro v178 w22 ho hb hg hat; rw [← Ny177.out] at ho; have HO179 := Aside0.mk (ho); replace HB := Aside0.mk (hb); clear HO_4; clear ho hb hg hat))
          go_roundg k1
          case measure => have := HK1.out; omega
          case rel => exact ⟨(y177), (wrap64 (x5_1 + 1)), (by first | rfl | (simp; done) | (simp [*]; done)), H', ⟨by have := HK1.out; omega⟩, ⟨by (with_reducible repeat (first | apply Kd.R_alloc | apply Kd.R_drewN | apply Kd.R_drew)); exact HO179.out⟩, ⟨bh_ HB⟩⟩
         ·rw [if_neg c20] at H
          exact absurd H (by simp)
       ·replace c8 := Bool.eq_false_iff.mpr c8
        subst c8
        have H1 : (some (([] : List (S31)), false)) = some (r1, r2) := by rw [if_neg (show ¬ (false = true) by decide)] at H; exact H
        clear H
        have H := H1
        clear H1
        simp only [Option.some.injEq, Prod.mk.injEq] at H
        obtain ⟨rfl, rfl⟩ := H
        have p165 : 0 ≤ (x5_1 : Int) := of_decide_eq_true (by first | (with_reducible assumption) | assumption)
        have q165 : x5_1 < (l0.length : Int) := of_decide_eq_true (by first | (with_reducible assumption) | assumption)
        obtain ⟨ad165, e165, hx165_0⟩ := Kd.at_string HR0.out x5_1 p165 q165
        cases e165
        replace hx165_0 := (HB.out.cell (World.block_lt_of_cell? w _ hx165_0)).trans hx165_0
        replace p165 := eq_true p165
        replace q165 := eq_true q165
        go_wp2_with (first | ((with_reducible refine gate_callee (f := 28) rfl ?_); refine gl_ (some 23) rfl rfl Tryd.func28 (by kernel_rfl) rfl #[.string (rdOf ByteArray.empty l0 x5_1), .int .u8 61] rfl ?_; (with_reducible refine (salvorref6_cutAt.calls k1 (rdOf ByteArray.empty l0 x5_1) 61 t166 t167 true _ A5.out).mono ?_); rintro e w' ⟨rfl, ⟨nd, rfl⟩⟩; refine ⟨_, rfl, ?_⟩) | (go_at_call 29; (with_reducible refine (salvorref6_letters.calls k1 t166 false _ A7.out).mono ?_); rintro e w' ⟨rfl, ⟨nd, rfl⟩⟩))
        go_ret2
        exact ⟨_, by first | rfl | (simp [errW_none, errW_some] <;> rfl) | (simp [*, errW_none, errW_some] <;> rfl), by first | exact Kd.R_nil _ _ _ _ _ | exact Kd.N_nil _ _ _ _ _ | exact Kd.V_nil _ _ _ _ _ | exact Kd.Q_nil _ _ _ _ _ | exact Kd.S_nil _ _ _ _ _, bh_ HB⟩
      ·replace c6 := Bool.eq_false_iff.mpr c6
       subst c6
       have H1 : (some (([] : List (S31)), false)) = some (r1, r2) := by rw [if_neg (show ¬ (false = true) by decide)] at H; exact H
       clear H
       have H := H1
       clear H1
       simp only [Option.some.injEq, Prod.mk.injEq] at H
       obtain ⟨rfl, rfl⟩ := H
       have p165 : 0 ≤ (x5_1 : Int) := of_decide_eq_true (by first | (with_reducible assumption) | assumption)
       have q165 : x5_1 < (l0.length : Int) := of_decide_eq_true (by first | (with_reducible assumption) | assumption)
       obtain ⟨ad165, e165, hx165_0⟩ := Kd.at_string HR0.out x5_1 p165 q165
       cases e165
       replace hx165_0 := (HB.out.cell (World.block_lt_of_cell? w _ hx165_0)).trans hx165_0
       replace p165 := eq_true p165
       replace q165 := eq_true q165
       go_wp2_with (first | ((with_reducible refine gate_callee (f := 28) rfl ?_); refine gl_ (some 23) rfl rfl Tryd.func28 (by kernel_rfl) rfl #[.string (rdOf ByteArray.empty l0 x5_1), .int .u8 61] rfl ?_; (with_reducible refine (salvorref6_cutAt.calls k1 (rdOf ByteArray.empty l0 x5_1) 61 t166 t167 false _ A5.out).mono ?_); rintro e w' ⟨rfl, ⟨nd, rfl⟩⟩; refine ⟨_, rfl, ?_⟩))
       go_ret2
       exact ⟨_, by first | rfl | (simp [errW_none, errW_some] <;> rfl) | (simp [*, errW_none, errW_some] <;> rfl), by first | exact Kd.R_nil _ _ _ _ _ | exact Kd.N_nil _ _ _ _ _ | exact Kd.V_nil _ _ _ _ _ | exact Kd.Q_nil _ _ _ _ _ | exact Kd.S_nil _ _ _ _ _, bh_ HB⟩
     ·rw [if_neg c4] at H
      exact absurd H (by simp)
    ·rw [if_neg c3] at H
     have c3b0 : decide (x5_1 < (l0.length : Int)) = false := decide_eq_false c3
     clear c3
     simp only [Option.some.injEq, Prod.mk.injEq] at H
     obtain ⟨rfl, rfl⟩ := H
     go_wp2
     go_ret2
     exact ⟨_, by first | rfl | (simp [errW_none, errW_some] <;> rfl) | (simp [*, errW_none, errW_some] <;> rfl), by (with_reducible repeat (first | apply Kd.R_alloc | apply Kd.R_drewN | apply Kd.R_drew)); exact HO_4.out, bh_ HB⟩

end Go.Proofs.YtlginoicaeonhaaDoor.P
