/- Laid by a program of this session's own (wip/wprint.py, over the kit's print.py): functions of the given program as plain Lean functions, and that the program's calls come to their answers. -/
import Derived.Test.YtbmhfnncagncmaaDoorPx0
import Derived.Test.YtbmhfnncagncmaaDoorPx11
import Derived.Test.YtbmhfnncagncmaaDoorPx12
import Derived.Test.YtbmhfnncagncmaaDoorPx16
namespace Go.Proofs.YtbmhfnncagncmaaDoor.P
open Go.RowKit Go.Proofs.YtbmhfnncagncmaaDoorW.PrintWords Go.Proofs.YtbmhfnncagncmaaDoorW.PrintLast Go.Proofs.YtbmhfnncagncmaaDoorW.PrintMore
attribute [local go_sem] max2_int min2_int max_two min_two max_three min_three max_four min_four   -- for this text's walks alone
set_option linter.unusedVariables false
set_option linter.unusedSimpArgs false

/-! ### num_Get: function 41 -/
def num_Get.l0 : Nat → List Int → List ByteArray → Int → Int → Option (Int × Bool)
 | 0, _, _, _, _ => none
 | k + 1, x4, x10, x11, x12 => if x12 < x11 then (if 0 ≤ x12 then (if x12 < (x10.length : Int) then ((num_part.f k (rdOf ByteArray.empty x10 x12)).bind fun bt142 => (if bt142.2 = true then (if x4.length < 17592186044416 then (num_Get.l0 k (x4 ++ [bt142.1]) x10 x11 (wrap64 (x12 + 1))) else (none)) else (some (0, false)))) else (none)) else (none)) else ((off_Mul.f k x4).bind fun bt147 => (some (bt147.1, bt147.2)))
def num_Get.f (k : Nat) (a0 : ByteArray) : Option (Int × Bool) := (strings_Split.f a0 (⟨#[120]⟩ : ByteArray)).bind fun t138 => (num_Get.l0 k ([] : List Int) t138 (t138.length : Int) 0)
theorem num_Get.mono_l : ∀ k, (∀ y0 y1 y2 y3, LeO (num_Get.l0 k y0 y1 y2 y3) (num_Get.l0 (k + 1) y0 y1 y2 y3))
 | 0 => fun _ _ _ _ r h => by simp [num_Get.l0] at h
 | k + 1 => by
  have ih0 := num_Get.mono_l k
  ·intro y0 y1 y2 y3
   unfold num_Get.l0
   repeat' first
   | (with_reducible exact ih0 _ _ _ _)
   | (with_reducible exact num_part.mono _ _)
   | (with_reducible exact off_Mul.mono _ _)
   | (with_reducible exact LeO.refl _)
   | (with_reducible exact LeO.none _)
   | (with_reducible refine LeO.ite ?_ ?_)
   | (with_reducible refine LeO.bind ?_ (fun _ => ?_))
   | exact ih0 _ _ _ _
   | exact num_part.mono _ _
   | exact off_Mul.mono _ _
   | exact LeO.none _
   | refine LeO.ite ?_ ?_
   | refine LeO.bind ?_ (fun _ => ?_)
theorem num_Get.mono : ∀ a0 k, LeO (num_Get.f k a0) (num_Get.f (k + 1) a0) := by
 intro a0 k
 have ih0 := num_Get.mono_l k
 unfold num_Get.f
 repeat' first
   | (with_reducible exact ih0 _ _ _ _)
   | (with_reducible exact num_part.mono _ _)
   | (with_reducible exact off_Mul.mono _ _)
   | (with_reducible exact LeO.refl _)
   | (with_reducible exact LeO.none _)
   | (with_reducible refine LeO.ite ?_ ?_)
   | (with_reducible refine LeO.bind ?_ (fun _ => ?_))
   | exact ih0 _ _ _ _
   | exact num_part.mono _ _
   | exact off_Mul.mono _ _
   | exact LeO.none _
   | refine LeO.ite ?_ ?_
   | refine LeO.bind ?_ (fun _ => ?_)
set_option maxHeartbeats 8000000 in
set_option maxRecDepth 100000 in
theorem num_Get.calls (k : Nat) (a0 : ByteArray) (r1 : Int) (r2 : Bool) (w : World) (h : num_Get.f k a0 = some (r1, r2)) (htab : TabAt w) :
  Calls Tryd.prog 41 #[.string a0] w fun e w' => e = .returned (.tuple #[.int .i64 r1, .bool r2]) ∧ Below w.heap.size w w' := by
 have HTAB := Aside0.mk htab
 clear htab
 have HB := Aside0.mk (Below.refl w.heap.size w)
 have H : ((strings_Split.f a0 (⟨#[120]⟩ : ByteArray)).bind fun t138 => (num_Get.l0 k ([] : List Int) t138 (t138.length : Int) 0)) = some (r1, r2) := h
 clear h
 replace H := Option.bind_eq_some_iff.mp H
 obtain ⟨t138, A20, H⟩ := H
 replace H : (num_Get.l0 k ([] : List Int) t138 (t138.length : Int) 0) = some (r1, r2) := H
 have A2 := Aside0.mk A20
 clear A20
 have H' := Aside0.mk H
 clear H
 go_enter Tryd.func41, Tryd.ntmps41
 go_wp2_with (first | ((with_reducible refine gate_callee (f := 50) rfl ?_); refine gl_ (some 10) rfl rfl Tryd.func50 (by kernel_rfl) rfl #[.string a0, .string (⟨#[120]⟩ : ByteArray)] rfl ?_; (with_reducible refine (strings_Split.calls a0 (⟨#[120]⟩ : ByteArray) t138 _ A2.out ?tb0_).mono ?_); (case tb0_ => exact tb_ HTAB HB); rintro e w3 ⟨v139, rfl, ho0, hb⟩; refine ⟨_, rfl, ?_⟩; have HO140 := Aside0.mk (Kd.R_lower ho0 (below_size (bh_ HB))); replace HB := bs_ HB hb; (try clear hb); (try clear hb2); (try clear hk); (try clear hi); (try clear ho0); obtain ⟨Ao4, co4, eo4⟩ := Kd.R_slice HO140.out; subst eo4))
 go_loopg [4, 12] k (fun kq v4 v12 w' => ∃ (x4_1 : List Int) (x12_1 : Int), v12 = .int .i64 x12_1 ∧ Aside0 (num_Get.l0 kq x4_1 t138 (t138.length : Int) x12_1 = some (r1, r2)) ∧ Aside0 (kq ≤ k) ∧ Aside0 (Kd.R (Kd.int .i64) 3 w' w.heap.size (fun _ => True) v4 x4_1) ∧ Aside0 (Kd.R Kd.string 9 w' w.heap.size (fun _ => True) (.slice Ao4 t138.length co4) t138) ∧ Aside0 (Below w.heap.size w w'))
 case atStart => exact ⟨(([] : List Int)), (0), (by first | rfl | (simp; done) | (simp [*]; done)), H', ⟨Nat.le_refl _⟩, ⟨by first | exact Kd.R_nil _ _ _ _ _ | exact Kd.N_nil _ _ _ _ _ | exact Kd.V_nil _ _ _ _ _ | exact Kd.Q_nil _ _ _ _ _ | exact Kd.S_nil _ _ _ _ _⟩, ⟨by (with_reducible repeat (first | apply Kd.R_alloc | apply Kd.R_drewN | apply Kd.R_drew)); exact HO140.out⟩, ⟨bh_ HB⟩⟩
 case round =>
  clear H'
  try clear p2
  try clear c4
  obtain ⟨x4_1, x12_1, rfl, HA, HK1, HO_4, HO_10, HB⟩ := hrel
  cases gk with
  | zero => exact absurd HA.out (by simp [num_Get.l0])
  | succ k1 =>
   have H := HA.out
   clear HA
   simp only [num_Get.l0] at H
   by_cases c5 : x12_1 < (t138.length : Int)
   ·rw [if_pos c5] at H
    have c5b0 : decide (x12_1 < (t138.length : Int)) = true := decide_eq_true c5
    clear c5
    by_cases c6 : 0 ≤ x12_1
    ·rw [if_pos c6] at H
     have c6b0 : decide (0 ≤ x12_1) = true := decide_eq_true c6
     clear c6
     by_cases c7 : x12_1 < (t138.length : Int)
     ·rw [if_pos c7] at H
      have c7b0 : decide (x12_1 < (t138.length : Int)) = true := decide_eq_true c7
      clear c7
      replace H := Option.bind_eq_some_iff.mp H
      obtain ⟨⟨t142, t143⟩, A80, H⟩ := H
      replace H : (if t143 = true then (if x4_1.length < 17592186044416 then (num_Get.l0 k1 (x4_1 ++ [t142]) t138 (t138.length : Int) (wrap64 (x12_1 + 1))) else (none)) else (some (0, false))) = some (r1, r2) := H
      have A8 := Aside0.mk A80
      clear A80
      by_cases c9 : t143 = true
      ·subst c9
       have H1 : (if x4_1.length < 17592186044416 then (num_Get.l0 k1 (x4_1 ++ [t142]) t138 (t138.length : Int) (wrap64 (x12_1 + 1))) else (none)) = some (r1, r2) := by rw [if_pos rfl] at H; exact H
       clear H
       have H := H1
       clear H1
       by_cases c10 : x4_1.length < 17592186044416
       ·rw [if_pos c10] at H
        have LMc10 := Aside0.mk c10
        clear c10
        obtain ⟨y144, hy144⟩ : ∃ y_ : List Int, y_ = (x4_1 ++ [t142]) := ⟨_, rfl⟩
        replace H : (num_Get.l0 k1 y144 t138 (t138.length : Int) (wrap64 (x12_1 + 1))) = some (r1, r2) := by first | (rw [hy144]; with_reducible exact H) | (have H2_ := (Option.bind_some _ _).symm.trans H; rw [hy144]; with_reducible exact H2_) | (have H2_ := (Option.bind_some _ _).symm.trans H; with_reducible exact H2_) | with_reducible exact H | (rw [hy144]; exact H) | exact H
        have Ny144 := Aside0.mk hy144
        clear hy144
        have H' := Aside0.mk H
        clear H
        have p141 : 0 ≤ (x12_1 : Int) := of_decide_eq_true (by first | (with_reducible assumption) | assumption)
        have q141 : x12_1 < (t138.length : Int) := of_decide_eq_true (by first | (with_reducible assumption) | assumption)
        obtain ⟨ad141, e141, hx141_0⟩ := Kd.at_string (Kd.R_reads' HO_10.out).2.2 x12_1 p141 q141
        cases e141
        replace p141 := eq_true p141
        replace q141 := eq_true q141
        go_wp2_with (first | ((with_reducible refine gate_callee (f := 51) rfl ?_); refine gl_ (some 18) rfl rfl Tryd.func51 (by kernel_rfl) rfl #[.string (rdOf ByteArray.empty t138 x12_1)] rfl ?_; (with_reducible refine (num_part.calls k1 (rdOf ByteArray.empty t138 x12_1) t142 true _ A8.out ?tb2_).mono ?_); (case tb2_ => exact tb_ HTAB HB); rintro e w11 ⟨rfl, hb⟩; refine ⟨_, rfl, ?_⟩; have n0_ := Aside0.mk (Kd.R_below (by (with_reducible repeat (first | apply Kd.R_alloc | apply Kd.R_drewN | apply Kd.R_drew)); exact HO_4.out) hb); have n1_ := Aside0.mk (Kd.R_below (by (with_reducible repeat (first | apply Kd.R_alloc | apply Kd.R_drewN | apply Kd.R_drew)); exact HO_10.out) hb); have n2_ := bs_ HB hb; clear HO_4; clear HO_10; clear HB; have HO_4 := n0_; have HO_10 := n1_; have HB := n2_; clear n0_ n1_ n2_; (try clear hb)) | ((with_reducible refine gate_builtin (b := .append) (xs := #[.tmp 23, .tmp 25]) rfl ?_); at_builtin; refine Kd.R_append (Kd.int .i64) (w0 := w) w.heap.size rfl (.tmp 23) (.tmp 25) 79 3 (.int .i64 0) 8 rfl Tryd.underlying79 info3 rfl (by decide) (by omega) u4 x4_1 t142 [.int .i64 t142] (fun _ => True) (fun _ => False) rfl rfl ?aP (fun _ hk => hk.elim) ?aF ?aO ?aB ?aS ?aL ?_; (case aP => exact rfl); (case aB => exact (bh_ HB)); (case aF => exact (fun _ _ => trivial)); (case aO => exact (by (with_reducible repeat (first | apply Kd.R_alloc | apply Kd.R_drewN | apply Kd.R_drew)); exact HO_4.out)); (case aS => exact (below_size (bh_ HB))); (case aL => have := LMc10.out; omega); intro v145 w12 ho hb hg hat; rw [← Ny144.out] at ho; have n0_ := Aside0.mk (Kd.R_over' (by (with_reducible repeat (first | apply Kd.R_alloc | apply Kd.R_drewN | apply Kd.R_drew)); exact HO_10.out) (Kd.R_typed (by (with_reducible repeat (first | apply Kd.R_alloc | apply Kd.R_drewN | apply Kd.R_drew)); exact HO_4.out)) (by decide) hg); have n1_ := Aside0.mk (hb); have n2_ := Aside0.mk (ho); clear HO_10; clear HB; clear HO_4; have HO_10 := n0_; have HB := n1_; have HO146 := n2_; clear n0_ n1_ n2_; clear ho hb hg hat))
        go_roundg k1
        case measure => have := HK1.out; omega
        case rel => exact ⟨(y144), (wrap64 (x12_1 + 1)), (by first | rfl | (simp; done) | (simp [*]; done)), H', ⟨by have := HK1.out; omega⟩, ⟨by (with_reducible repeat (first | apply Kd.R_alloc | apply Kd.R_drewN | apply Kd.R_drew)); exact HO146.out⟩, ⟨by (with_reducible repeat (first | apply Kd.R_alloc | apply Kd.R_drewN | apply Kd.R_drew)); exact HO_10.out⟩, ⟨bh_ HB⟩⟩
       ·rw [if_neg c10] at H
        exact absurd H (by simp)
      ·replace c9 := Bool.eq_false_iff.mpr c9
       subst c9
       have H1 : (some (0, false)) = some (r1, r2) := by rw [if_neg (show ¬ (false = true) by decide)] at H; exact H
       clear H
       have H := H1
       clear H1
       simp only [Option.some.injEq, Prod.mk.injEq] at H
       obtain ⟨rfl, rfl⟩ := H
       have p141 : 0 ≤ (x12_1 : Int) := of_decide_eq_true (by first | (with_reducible assumption) | assumption)
       have q141 : x12_1 < (t138.length : Int) := of_decide_eq_true (by first | (with_reducible assumption) | assumption)
       obtain ⟨ad141, e141, hx141_0⟩ := Kd.at_string (Kd.R_reads' HO_10.out).2.2 x12_1 p141 q141
       cases e141
       replace p141 := eq_true p141
       replace q141 := eq_true q141
       go_wp2_with (first | ((with_reducible refine gate_callee (f := 51) rfl ?_); refine gl_ (some 18) rfl rfl Tryd.func51 (by kernel_rfl) rfl #[.string (rdOf ByteArray.empty t138 x12_1)] rfl ?_; (with_reducible refine (num_part.calls k1 (rdOf ByteArray.empty t138 x12_1) t142 false _ A8.out ?tb4_).mono ?_); (case tb4_ => exact tb_ HTAB HB); rintro e w13 ⟨rfl, hb⟩; refine ⟨_, rfl, ?_⟩; have n0_ := Aside0.mk (Kd.R_below (by (with_reducible repeat (first | apply Kd.R_alloc | apply Kd.R_drewN | apply Kd.R_drew)); exact HO_4.out) hb); have n1_ := Aside0.mk (Kd.R_below (by (with_reducible repeat (first | apply Kd.R_alloc | apply Kd.R_drewN | apply Kd.R_drew)); exact HO_10.out) hb); have n2_ := bs_ HB hb; clear HO_4; clear HO_10; clear HB; have HO_4 := n0_; have HO_10 := n1_; have HB := n2_; clear n0_ n1_ n2_; (try clear hb)))
       go_ret2
       exact ⟨by first | rfl | (simp [errW_none, errW_some] <;> rfl) | (simp [*, errW_none, errW_some] <;> rfl), bh_ HB⟩
     ·rw [if_neg c7] at H
      exact absurd H (by simp)
    ·rw [if_neg c6] at H
     exact absurd H (by simp)
   ·rw [if_neg c5] at H
    have c5b0 : decide (x12_1 < (t138.length : Int)) = false := decide_eq_false c5
    clear c5
    replace H := Option.bind_eq_some_iff.mp H
    obtain ⟨⟨t147, t148⟩, A140, H⟩ := H
    replace H : (some (t147, t148)) = some (r1, r2) := H
    have A14 := Aside0.mk A140
    clear A140
    simp only [Option.some.injEq, Prod.mk.injEq] at H
    obtain ⟨rfl, rfl⟩ := H
    obtain ⟨Ao15, co15, eo15⟩ := Kd.R_slice HO_4.out
    subst eo15
    go_wp2_with (first | ((with_reducible refine gate_callee (f := 32) rfl ?_); refine gl_ (some 29) rfl rfl Tryd.func32 (by kernel_rfl) rfl #[.slice Ao15 x4_1.length co15] rfl ?_; (with_reducible refine (off_Mul.calls k1 _ _ x4_1 t147 t148 _ ?side1 ?side2 A14.out).mono ?_); (case side1 => repeat (first | exact (Kd.R_reads' HO_4.out).2.2 | (with_reducible refine Kd.C_alloc ?_ _) | (with_reducible refine Kd.C_drewN ?_ _) | (with_reducible refine Kd.C_drew ?_))); (case side2 => exact (Kd.R_reads' HO_4.out).2.1); rintro e w' ⟨rfl, ⟨nd, rfl⟩⟩; refine ⟨_, rfl, ?_⟩))
    go_ret2
    exact ⟨by first | rfl | (simp [errW_none, errW_some] <;> rfl) | (simp [*, errW_none, errW_some] <;> rfl), bh_ HB⟩

-- NOT PRINTED: function 27 (operand_reader_number)

-- NOT PRINTED: function 26 (operand_reader_size)

-- NOT PRINTED: function 11 (operand_reader_sizes)

/-! ### arg_Words: function 42 -/
def arg_Words.f (a0 : ByteArray) (a1 : Int) : Option (List ByteArray) := (strings_Split.f a0 (strOfNums (([a1] : List Int)))).bind fun t156 => (some t156)
set_option maxHeartbeats 8000000 in
set_option maxRecDepth 100000 in
theorem arg_Words.calls (a0 : ByteArray) (a1 : Int) (r : List ByteArray) (w : World) (h : arg_Words.f a0 a1 = some r) (htab : TabAt w) :
    Calls Tryd.prog 42 #[.string a0, .int .u8 a1] w fun e w' => ∃ v0_ : Value, e = .returned (v0_) ∧ Kd.R Kd.string 9 w' w.heap.size (fun _ => True) v0_ r ∧ Below w.heap.size w w' := by
  have HTAB := Aside0.mk htab
  clear htab
  have HB := Aside0.mk (Below.refl w.heap.size w)
  have H : ((strings_Split.f a0 (strOfNums (([a1] : List Int)))).bind fun t156 => (some t156)) = some r := h
  clear h
  obtain ⟨y153, hy153⟩ : ∃ y_ : List Int, y_ = (([a1] : List Int)) := ⟨_, rfl⟩
  replace H : ((strings_Split.f a0 (strOfNums y153)).bind fun t156 => (some t156)) = some r := by first | (rw [hy153]; with_reducible exact H) | (have H2_ := (Option.bind_some _ _).symm.trans H; rw [hy153]; with_reducible exact H2_) | (have H2_ := (Option.bind_some _ _).symm.trans H; with_reducible exact H2_) | with_reducible exact H | (rw [hy153]; exact H) | exact H
  have Ny153 := Aside0.mk hy153
  clear hy153
  replace H := Option.bind_eq_some_iff.mp H
  obtain ⟨t156, A30, H⟩ := H
  replace H : (some t156) = some r := H
  have A3 := Aside0.mk A30
  clear A30
  obtain rfl := Option.some.inj H
  go_enter Tryd.func42, Tryd.ntmps42
  go_wp2_with (first | ((with_reducible refine gate_dst (N := 7) rfl ?_); refine Kd.R_lit (Kd.int .u8) _ 5 ?hg (N := 7) ?hd (xs := ([a1] : List Int)) (inner := [.int .u8 a1]) (ok := fun _ => True) (okp := fun _ => True) ?hr ?hp (fun _ hk => hk) trivial (Below.refl _ _) (Nat.le_refl _) (by simp) ?_; (case hd => rfl); (case hg => rfl); (case hr => first | (go_simp; done) | (go_simp; rfl)); (case hp => exact (Reps.one (show Kd.M (Kd.int .u8) _ _ _ a1 [.int .u8 a1] from rfl) (Reps.none _ _))); intro v154 w4 ho5 hb hg_ hnew_; clear hg_ hnew_; (first | rw [← Ny153.out] at ho5 | (simp only [Int.reduceToNat] at ho5; rw [← Ny153.out] at ho5)); have HO155 := Aside0.mk (Kd.R_lower ho5 (below_size (bh_ HB))); replace HB := bs_ HB hb; clear hb ho5; have hcv6 := own_string (P := Tryd.prog) Tryd.underlying51 Tryd.underlying5 Tryd.underlying9 (Kd.own_of_R HO155.out)) | ((with_reducible refine gate_callee (f := 50) rfl ?_); refine gl_ (some 9) rfl rfl Tryd.func50 (by kernel_rfl) rfl #[.string a0, .string (strOfNums y153)] rfl ?_; (with_reducible refine (strings_Split.calls a0 (strOfNums y153) t156 _ A3.out ?tb0_).mono ?_); (case tb0_ => exact tb_ HTAB HB); rintro e w7 ⟨v157, rfl, ho0, hb⟩; refine ⟨_, rfl, ?_⟩; have n0_ := Aside0.mk (Kd.R_below (by (with_reducible repeat (first | apply Kd.R_alloc | apply Kd.R_drewN | apply Kd.R_drew)); exact HO155.out) hb); have n1_ := Aside0.mk (Kd.R_lower ho0 (below_size (bh_ HB))); have n2_ := bs_ HB hb; clear HO155; clear HB; have HO155 := n0_; have HO158 := n1_; have HB := n2_; clear n0_ n1_ n2_; (try clear hb); (try clear hb2); (try clear hk); (try clear hi); (try clear ho0)))
  go_ret
  exact ⟨_, by first | rfl | (simp [errW_none, errW_some] <;> rfl) | (simp [*, errW_none, errW_some] <;> rfl), by (with_reducible repeat (first | apply Kd.R_alloc | apply Kd.R_drewN | apply Kd.R_drew)); exact HO158.out, bh_ HB⟩

-- NOT PRINTED: function 28 (operand_reader_words)

-- NOT PRINTED: function 12 (operand_reader_flags)

/-! ### conv_blocks: function 44 -/
def conv_blocks.f (a0_0 : Bool) (a0_1 : Bool) (a0_2 : Bool) (a0_3 : Bool) (a0_4 : Bool) (a0_5 : Bool) (a0_6 : Bool) (a0_7 : Bool) (a0_8 : Int) : Option (Bool) := if a0_1 = true then (some true) else (if a0_6 = true then (some true) else (some a0_7))
set_option maxHeartbeats 8000000 in
set_option maxRecDepth 100000 in
theorem conv_blocks.calls (a0_0 : Bool) (a0_1 : Bool) (a0_2 : Bool) (a0_3 : Bool) (a0_4 : Bool) (a0_5 : Bool) (a0_6 : Bool) (a0_7 : Bool) (a0_8 : Int) (r : Bool) (w : World) (h : conv_blocks.f a0_0 a0_1 a0_2 a0_3 a0_4 a0_5 a0_6 a0_7 a0_8 = some r) :
  Calls Tryd.prog 44 #[.agg #[.bool a0_0, .bool a0_1, .bool a0_2, .bool a0_3, .bool a0_4, .bool a0_5, .bool a0_6, .bool a0_7, .int .i64 a0_8]] w fun e w' => e = .returned (.bool r) ∧ Below w.heap.size w w' := by
 have hu23 := Tryd.underlying23
 have HB := Aside0.mk (Below.refl w.heap.size w)
 have H : (if a0_1 = true then (some true) else (if a0_6 = true then (some true) else (some a0_7))) = some r := h
 clear h
 by_cases c2 : a0_1 = true
 ·subst c2
  have H1 : (some true) = some r := by rw [if_pos rfl] at H; exact H
  clear H
  have H := H1
  clear H1
  obtain rfl := Option.some.inj H
  go_enter Tryd.func44, Tryd.ntmps44
  go_wp2_with (first | ((with_reducible refine gate_dst (N := 1) rfl ?_); refine box_e 1 #[.bool a0_0, .bool true, .bool a0_2, .bool a0_3, .bool a0_4, .bool a0_5, .bool a0_6, .bool a0_7, .int .i64 a0_8] 23 ?_; intro gb159 hg w3 hbox hb; have BK159 := Aside0.mk hbox; have GW159 := bg_ HB hg; have GE159 := bg_ HB hg; replace HB := bs_ HB hb; clear hb hbox hg; have hcz4_0 : w3.cell? ⟨gb159, 0, none⟩ = some (.bool a0_0) := (blk_cell BK159.out 0).trans rfl; have hcz4_1 : w3.cell? ⟨gb159, 1, none⟩ = some (.bool true) := (blk_cell BK159.out 1).trans rfl; have hcz4_2 : w3.cell? ⟨gb159, 2, none⟩ = some (.bool a0_2) := (blk_cell BK159.out 2).trans rfl; have hcz4_3 : w3.cell? ⟨gb159, 3, none⟩ = some (.bool a0_3) := (blk_cell BK159.out 3).trans rfl; have hcz4_4 : w3.cell? ⟨gb159, 4, none⟩ = some (.bool a0_4) := (blk_cell BK159.out 4).trans rfl; have hcz4_5 : w3.cell? ⟨gb159, 5, none⟩ = some (.bool a0_5) := (blk_cell BK159.out 5).trans rfl; have hcz4_6 : w3.cell? ⟨gb159, 6, none⟩ = some (.bool a0_6) := (blk_cell BK159.out 6).trans rfl; have hcz4_7 : w3.cell? ⟨gb159, 7, none⟩ = some (.bool a0_7) := (blk_cell BK159.out 7).trans rfl; have hcz4_8 : w3.cell? ⟨gb159, 8, none⟩ = some (.int .i64 a0_8) := (blk_cell BK159.out 8).trans rfl; have hfz4_0 := blk_frozen BK159.out 0; have hfz4_1 := blk_frozen BK159.out 1; have hfz4_2 := blk_frozen BK159.out 2; have hfz4_3 := blk_frozen BK159.out 3; have hfz4_4 := blk_frozen BK159.out 4; have hfz4_5 := blk_frozen BK159.out 5; have hfz4_6 := blk_frozen BK159.out 6; have hfz4_7 := blk_frozen BK159.out 7; have hfz4_8 := blk_frozen BK159.out 8))
  go_ret
  exact ⟨by first | rfl | (simp [errW_none, errW_some] <;> rfl) | (simp [*, errW_none, errW_some] <;> rfl), bh_ HB⟩
 ·replace c2 := Bool.eq_false_iff.mpr c2
  subst c2
  have H1 : (if a0_6 = true then (some true) else (some a0_7)) = some r := by rw [if_neg (show ¬ (false = true) by decide)] at H; exact H
  clear H
  have H := H1
  clear H1
  by_cases c5 : a0_6 = true
  ·subst c5
   have H1 : (some true) = some r := by rw [if_pos rfl] at H; exact H
   clear H
   have H := H1
   clear H1
   obtain rfl := Option.some.inj H
   go_enter Tryd.func44, Tryd.ntmps44
   go_wp2_with (first | ((with_reducible refine gate_dst (N := 1) rfl ?_); refine box_e 1 #[.bool a0_0, .bool false, .bool a0_2, .bool a0_3, .bool a0_4, .bool a0_5, .bool true, .bool a0_7, .int .i64 a0_8] 23 ?_; intro gb159 hg w6 hbox hb; have BK159 := Aside0.mk hbox; have GW159 := bg_ HB hg; have GE159 := bg_ HB hg; replace HB := bs_ HB hb; clear hb hbox hg; have hcz7_0 : w6.cell? ⟨gb159, 0, none⟩ = some (.bool a0_0) := (blk_cell BK159.out 0).trans rfl; have hcz7_1 : w6.cell? ⟨gb159, 1, none⟩ = some (.bool false) := (blk_cell BK159.out 1).trans rfl; have hcz7_2 : w6.cell? ⟨gb159, 2, none⟩ = some (.bool a0_2) := (blk_cell BK159.out 2).trans rfl; have hcz7_3 : w6.cell? ⟨gb159, 3, none⟩ = some (.bool a0_3) := (blk_cell BK159.out 3).trans rfl; have hcz7_4 : w6.cell? ⟨gb159, 4, none⟩ = some (.bool a0_4) := (blk_cell BK159.out 4).trans rfl; have hcz7_5 : w6.cell? ⟨gb159, 5, none⟩ = some (.bool a0_5) := (blk_cell BK159.out 5).trans rfl; have hcz7_6 : w6.cell? ⟨gb159, 6, none⟩ = some (.bool true) := (blk_cell BK159.out 6).trans rfl; have hcz7_7 : w6.cell? ⟨gb159, 7, none⟩ = some (.bool a0_7) := (blk_cell BK159.out 7).trans rfl; have hcz7_8 : w6.cell? ⟨gb159, 8, none⟩ = some (.int .i64 a0_8) := (blk_cell BK159.out 8).trans rfl; have hfz7_0 := blk_frozen BK159.out 0; have hfz7_1 := blk_frozen BK159.out 1; have hfz7_2 := blk_frozen BK159.out 2; have hfz7_3 := blk_frozen BK159.out 3; have hfz7_4 := blk_frozen BK159.out 4; have hfz7_5 := blk_frozen BK159.out 5; have hfz7_6 := blk_frozen BK159.out 6; have hfz7_7 := blk_frozen BK159.out 7; have hfz7_8 := blk_frozen BK159.out 8))
   go_ret
   exact ⟨by first | rfl | (simp [errW_none, errW_some] <;> rfl) | (simp [*, errW_none, errW_some] <;> rfl), bh_ HB⟩
  ·replace c5 := Bool.eq_false_iff.mpr c5
   subst c5
   have H1 : (some a0_7) = some r := by rw [if_neg (show ¬ (false = true) by decide)] at H; exact H
   clear H
   have H := H1
   clear H1
   obtain rfl := Option.some.inj H
   go_enter Tryd.func44, Tryd.ntmps44
   go_wp2_with (first | ((with_reducible refine gate_dst (N := 1) rfl ?_); refine box_e 1 #[.bool a0_0, .bool false, .bool a0_2, .bool a0_3, .bool a0_4, .bool a0_5, .bool false, .bool a0_7, .int .i64 a0_8] 23 ?_; intro gb159 hg w8 hbox hb; have BK159 := Aside0.mk hbox; have GW159 := bg_ HB hg; have GE159 := bg_ HB hg; replace HB := bs_ HB hb; clear hb hbox hg; have hcz9_0 : w8.cell? ⟨gb159, 0, none⟩ = some (.bool a0_0) := (blk_cell BK159.out 0).trans rfl; have hcz9_1 : w8.cell? ⟨gb159, 1, none⟩ = some (.bool false) := (blk_cell BK159.out 1).trans rfl; have hcz9_2 : w8.cell? ⟨gb159, 2, none⟩ = some (.bool a0_2) := (blk_cell BK159.out 2).trans rfl; have hcz9_3 : w8.cell? ⟨gb159, 3, none⟩ = some (.bool a0_3) := (blk_cell BK159.out 3).trans rfl; have hcz9_4 : w8.cell? ⟨gb159, 4, none⟩ = some (.bool a0_4) := (blk_cell BK159.out 4).trans rfl; have hcz9_5 : w8.cell? ⟨gb159, 5, none⟩ = some (.bool a0_5) := (blk_cell BK159.out 5).trans rfl; have hcz9_6 : w8.cell? ⟨gb159, 6, none⟩ = some (.bool false) := (blk_cell BK159.out 6).trans rfl; have hcz9_7 : w8.cell? ⟨gb159, 7, none⟩ = some (.bool a0_7) := (blk_cell BK159.out 7).trans rfl; have hcz9_8 : w8.cell? ⟨gb159, 8, none⟩ = some (.int .i64 a0_8) := (blk_cell BK159.out 8).trans rfl; have hfz9_0 := blk_frozen BK159.out 0; have hfz9_1 := blk_frozen BK159.out 1; have hfz9_2 := blk_frozen BK159.out 2; have hfz9_3 := blk_frozen BK159.out 3; have hfz9_4 := blk_frozen BK159.out 4; have hfz9_5 := blk_frozen BK159.out 5; have hfz9_6 := blk_frozen BK159.out 6; have hfz9_7 := blk_frozen BK159.out 7; have hfz9_8 := blk_frozen BK159.out 8))
   go_ret
   exact ⟨by first | rfl | (simp [errW_none, errW_some] <;> rfl) | (simp [*, errW_none, errW_some] <;> rfl), bh_ HB⟩

/-! ### conv_unblocks: function 45 -/
def conv_unblocks.f (a0_0 : Bool) (a0_1 : Bool) (a0_2 : Bool) (a0_3 : Bool) (a0_4 : Bool) (a0_5 : Bool) (a0_6 : Bool) (a0_7 : Bool) (a0_8 : Int) : Option (Bool) := if a0_2 = true then (some true) else (some a0_5)
set_option maxHeartbeats 8000000 in
set_option maxRecDepth 100000 in
theorem conv_unblocks.calls (a0_0 : Bool) (a0_1 : Bool) (a0_2 : Bool) (a0_3 : Bool) (a0_4 : Bool) (a0_5 : Bool) (a0_6 : Bool) (a0_7 : Bool) (a0_8 : Int) (r : Bool) (w : World) (h : conv_unblocks.f a0_0 a0_1 a0_2 a0_3 a0_4 a0_5 a0_6 a0_7 a0_8 = some r) :
  Calls Tryd.prog 45 #[.agg #[.bool a0_0, .bool a0_1, .bool a0_2, .bool a0_3, .bool a0_4, .bool a0_5, .bool a0_6, .bool a0_7, .int .i64 a0_8]] w fun e w' => e = .returned (.bool r) ∧ Below w.heap.size w w' := by
 have hu23 := Tryd.underlying23
 have HB := Aside0.mk (Below.refl w.heap.size w)
 have H : (if a0_2 = true then (some true) else (some a0_5)) = some r := h
 clear h
 by_cases c2 : a0_2 = true
 ·subst c2
  have H1 : (some true) = some r := by rw [if_pos rfl] at H; exact H
  clear H
  have H := H1
  clear H1
  obtain rfl := Option.some.inj H
  go_enter Tryd.func45, Tryd.ntmps45
  go_wp2_with (first | ((with_reducible refine gate_dst (N := 1) rfl ?_); refine box_e 1 #[.bool a0_0, .bool a0_1, .bool true, .bool a0_3, .bool a0_4, .bool a0_5, .bool a0_6, .bool a0_7, .int .i64 a0_8] 23 ?_; intro gb160 hg w3 hbox hb; have BK160 := Aside0.mk hbox; have GW160 := bg_ HB hg; have GE160 := bg_ HB hg; replace HB := bs_ HB hb; clear hb hbox hg; have hcz4_0 : w3.cell? ⟨gb160, 0, none⟩ = some (.bool a0_0) := (blk_cell BK160.out 0).trans rfl; have hcz4_1 : w3.cell? ⟨gb160, 1, none⟩ = some (.bool a0_1) := (blk_cell BK160.out 1).trans rfl; have hcz4_2 : w3.cell? ⟨gb160, 2, none⟩ = some (.bool true) := (blk_cell BK160.out 2).trans rfl; have hcz4_3 : w3.cell? ⟨gb160, 3, none⟩ = some (.bool a0_3) := (blk_cell BK160.out 3).trans rfl; have hcz4_4 : w3.cell? ⟨gb160, 4, none⟩ = some (.bool a0_4) := (blk_cell BK160.out 4).trans rfl; have hcz4_5 : w3.cell? ⟨gb160, 5, none⟩ = some (.bool a0_5) := (blk_cell BK160.out 5).trans rfl; have hcz4_6 : w3.cell? ⟨gb160, 6, none⟩ = some (.bool a0_6) := (blk_cell BK160.out 6).trans rfl; have hcz4_7 : w3.cell? ⟨gb160, 7, none⟩ = some (.bool a0_7) := (blk_cell BK160.out 7).trans rfl; have hcz4_8 : w3.cell? ⟨gb160, 8, none⟩ = some (.int .i64 a0_8) := (blk_cell BK160.out 8).trans rfl; have hfz4_0 := blk_frozen BK160.out 0; have hfz4_1 := blk_frozen BK160.out 1; have hfz4_2 := blk_frozen BK160.out 2; have hfz4_3 := blk_frozen BK160.out 3; have hfz4_4 := blk_frozen BK160.out 4; have hfz4_5 := blk_frozen BK160.out 5; have hfz4_6 := blk_frozen BK160.out 6; have hfz4_7 := blk_frozen BK160.out 7; have hfz4_8 := blk_frozen BK160.out 8))
  go_ret
  exact ⟨by first | rfl | (simp [errW_none, errW_some] <;> rfl) | (simp [*, errW_none, errW_some] <;> rfl), bh_ HB⟩
 ·replace c2 := Bool.eq_false_iff.mpr c2
  subst c2
  have H1 : (some a0_5) = some r := by rw [if_neg (show ¬ (false = true) by decide)] at H; exact H
  clear H
  have H := H1
  clear H1
  obtain rfl := Option.some.inj H
  go_enter Tryd.func45, Tryd.ntmps45
  go_wp2_with (first | ((with_reducible refine gate_dst (N := 1) rfl ?_); refine box_e 1 #[.bool a0_0, .bool a0_1, .bool false, .bool a0_3, .bool a0_4, .bool a0_5, .bool a0_6, .bool a0_7, .int .i64 a0_8] 23 ?_; intro gb160 hg w5 hbox hb; have BK160 := Aside0.mk hbox; have GW160 := bg_ HB hg; have GE160 := bg_ HB hg; replace HB := bs_ HB hb; clear hb hbox hg; have hcz6_0 : w5.cell? ⟨gb160, 0, none⟩ = some (.bool a0_0) := (blk_cell BK160.out 0).trans rfl; have hcz6_1 : w5.cell? ⟨gb160, 1, none⟩ = some (.bool a0_1) := (blk_cell BK160.out 1).trans rfl; have hcz6_2 : w5.cell? ⟨gb160, 2, none⟩ = some (.bool false) := (blk_cell BK160.out 2).trans rfl; have hcz6_3 : w5.cell? ⟨gb160, 3, none⟩ = some (.bool a0_3) := (blk_cell BK160.out 3).trans rfl; have hcz6_4 : w5.cell? ⟨gb160, 4, none⟩ = some (.bool a0_4) := (blk_cell BK160.out 4).trans rfl; have hcz6_5 : w5.cell? ⟨gb160, 5, none⟩ = some (.bool a0_5) := (blk_cell BK160.out 5).trans rfl; have hcz6_6 : w5.cell? ⟨gb160, 6, none⟩ = some (.bool a0_6) := (blk_cell BK160.out 6).trans rfl; have hcz6_7 : w5.cell? ⟨gb160, 7, none⟩ = some (.bool a0_7) := (blk_cell BK160.out 7).trans rfl; have hcz6_8 : w5.cell? ⟨gb160, 8, none⟩ = some (.int .i64 a0_8) := (blk_cell BK160.out 8).trans rfl; have hfz6_0 := blk_frozen BK160.out 0; have hfz6_1 := blk_frozen BK160.out 1; have hfz6_2 := blk_frozen BK160.out 2; have hfz6_3 := blk_frozen BK160.out 3; have hfz6_4 := blk_frozen BK160.out 4; have hfz6_5 := blk_frozen BK160.out 5; have hfz6_6 := blk_frozen BK160.out 6; have hfz6_7 := blk_frozen BK160.out 7; have hfz6_8 := blk_frozen BK160.out 8))
  go_ret
  exact ⟨by first | rfl | (simp [errW_none, errW_some] <;> rfl) | (simp [*, errW_none, errW_some] <;> rfl), bh_ HB⟩

end Go.Proofs.YtbmhfnncagncmaaDoor.P
