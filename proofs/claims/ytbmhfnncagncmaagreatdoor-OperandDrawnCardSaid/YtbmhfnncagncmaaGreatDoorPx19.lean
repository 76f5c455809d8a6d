import Derived.Test.YtbmhfnncagncmaaGreatDoorPx15
namespace Go.Proofs.YtbmhfnncagncmaaGreatDoor.P
open Go.RowKit Go.Proofs.YtbmhfnncagncmaaGreatDoorW.PrintWords Go.Proofs.YtbmhfnncagncmaaGreatDoorW.PrintLast Go.Proofs.YtbmhfnncagncmaaGreatDoorW.PrintMore
attribute [local go_sem] max2_int min2_int max_two min_two max_three min_three max_four min_four
set_option linter.unusedVariables false
set_option linter.unusedSimpArgs false
def salvorref6_Words.l0 : Nat → ByteArray → Int → List ByteArray → Option (List ByteArray)
 | 0, _, _, _ => none
 | k + 1, x0, x1, x5 => (salvorref6_cutAt.f k x0 x1).bind fun bt214 => (if x5.length < 8796093022208 then ((some (x5 ++ [bt214.1] : List ByteArray)).bind fun y217 => (if bt214.2.2 = true then (salvorref6_Words.l0 k bt214.2.1 x1 y217) else (some y217))) else (none))
def salvorref6_Words.f (k : Nat) (a0 : ByteArray) (a1 : Int) : Option (List ByteArray) := salvorref6_Words.l0 k a0 a1 ([] : List ByteArray)
theorem salvorref6_Words.mono_l : ∀ k, (∀ y0 y1 y2, LeO (salvorref6_Words.l0 k y0 y1 y2) (salvorref6_Words.l0 (k + 1) y0 y1 y2))
 | 0 => fun _ _ _ r h => by simp [salvorref6_Words.l0] at h
 | k + 1 => by
  have ih0 := salvorref6_Words.mono_l k
  ·intro y0 y1 y2
   unfold salvorref6_Words.l0
   repeat' first
   | (with_reducible exact ih0 _ _ _)
   | (with_reducible exact salvorref6_cutAt.mono _ _ _)
   | (with_reducible exact LeO.refl _)
   | (with_reducible exact LeO.none _)
   | (with_reducible refine LeO.ite ?_ ?_)
   | (with_reducible refine LeO.bind ?_ (fun _ => ?_))
   | refine LeO.bind ?_ (fun _ => ?_)
theorem salvorref6_Words.mono : ∀ a0 a1 k, LeO (salvorref6_Words.f k a0 a1) (salvorref6_Words.f (k + 1) a0 a1) := by
 intro a0 a1 k
 have ih0 := salvorref6_Words.mono_l k
 unfold salvorref6_Words.f
 repeat' first
   | (with_reducible exact ih0 _ _ _)
   | (with_reducible exact salvorref6_cutAt.mono _ _ _)
   | (with_reducible exact LeO.refl _)
   | (with_reducible exact LeO.none _)
   | (with_reducible refine LeO.ite ?_ ?_)
   | (with_reducible refine LeO.bind ?_ (fun _ => ?_))
   | refine LeO.bind ?_ (fun _ => ?_)
set_option maxHeartbeats 8000000 in
set_option maxRecDepth 100000 in
theorem salvorref6_Words.calls (k : Nat) (a0 : ByteArray) (a1 : Int) (r : List ByteArray) (w : World) (h : salvorref6_Words.f k a0 a1 = some r) :
  Calls Tryz.prog 47 #[.string a0, .int .u8 a1] w fun e w' => ∃ v0_ : Value, e = .returned (v0_) ∧ Kd.R Kd.string 9 w' w.heap.size (fun _ => True) v0_ r ∧ Below w.heap.size w w' := by
 have HB := Aside0.mk (Below.refl w.heap.size w)
 have H : (salvorref6_Words.l0 k a0 a1 ([] : List ByteArray)) = some r := h
 clear h
 have H' := Aside0.mk H
 clear H
 go_enter Tryz.func47, Tryz.ntmps47
 go_wp2
 go_loopg [0, 5] k (fun kq v0 v5 w' => ∃ (x0_1 : ByteArray) (x5_1 : List ByteArray), v0 = .string x0_1 ∧ Aside0 (salvorref6_Words.l0 kq x0_1 a1 x5_1 = some r) ∧ Aside0 (kq ≤ k) ∧ Aside0 (Kd.R Kd.string 9 w' w.heap.size (fun _ => True) v5 x5_1) ∧ Aside0 (Below w.heap.size w w'))
 case atStart => exact ⟨(a0), (([] : List ByteArray)), (by first | rfl | (simp; done) | (simp [*]; done)), H', ⟨Nat.le_refl _⟩, ⟨by first | exact Kd.R_nil _ _ _ _ _ | exact Kd.N_nil _ _ _ _ _ | exact Kd.V_nil _ _ _ _ _ | exact Kd.Q_nil _ _ _ _ _ | exact Kd.S_nil _ _ _ _ _⟩, ⟨bh_ HB⟩⟩
 case round =>
  clear H'
  try clear p2
  obtain ⟨x0_1, x5_1, rfl, HA, HK1, HO_5, HB⟩ := hrel
  cases gk with
  | zero => exact absurd HA.out (by simp [salvorref6_Words.l0])
  | succ k1 =>
   have H := HA.out
   clear HA
   simp only [salvorref6_Words.l0] at H
   replace H := Option.bind_eq_some_iff.mp H
   obtain ⟨⟨t214, t215, t216⟩, A30, H⟩ := H
   replace H : (if x5_1.length < 8796093022208 then ((some (x5_1 ++ [t214] : List ByteArray)).bind fun y217 => (if t216 = true then (salvorref6_Words.l0 k1 t215 a1 y217) else (some y217))) else (none)) = some r := H
   have A3 := Aside0.mk A30
   clear A30
   by_cases c4 : x5_1.length < 8796093022208
   ·rw [if_pos c4] at H
    have LMc4 := Aside0.mk c4
    clear c4
    obtain ⟨y217, hy217⟩ : ∃ y_ : List ByteArray, y_ = (x5_1 ++ [t214]) := ⟨_, rfl⟩
    replace H : (if t216 = true then (salvorref6_Words.l0 k1 t215 a1 y217) else (some y217)) = some r := by first | (rw [hy217]; with_reducible exact H) | (have H2_ := (Option.bind_some _ _).symm.trans H; rw [hy217]; with_reducible exact H2_) | (have H2_ := (Option.bind_some _ _).symm.trans H; with_reducible exact H2_) | with_reducible exact H | (rw [hy217]; exact H) | exact H
    have Ny217 := Aside0.mk hy217
    clear hy217
    by_cases c5 : t216 = true
    ·subst c5
     have H1 := H; rw [if_pos rfl] at H1
     clear H
     have H := H1
     clear H1
     have H' := Aside0.mk H
     clear H
     go_wp2_with (first | ((with_reducible refine gate_callee (f := 44) rfl ?_); refine gl_ (some 12) rfl rfl Tryz.func44 (by kernel_rfl) rfl #[.string x0_1, .int .u8 a1] rfl ?_; (with_reducible refine (salvorref6_cutAt.calls k1 x0_1 a1 t214 t215 true _ A3.out).mono ?_); rintro e w' ⟨rfl, ⟨nd, rfl⟩⟩; refine ⟨_, rfl, ?_⟩) | ((with_reducible refine gate_builtin (b := .append) (xs := #[.tmp 16, .tmp 18]) rfl ?_); at_builtin; refine Kd.R_append Kd.string (w0 := w) w.heap.size rfl (.tmp 16) (.tmp 18) 22 9 (.string ⟨#[]⟩) 16 rfl Tryz.underlying22 info9 rfl (by decide) (by omega) u5 x5_1 t214 [.string t214] (fun _ => True) (fun _ => False) rfl rfl ?aP (fun _ hk => hk.elim) ?aF ?aO ?aB ?aS ?aL ?_; (case aP => exact rfl); (case aB => exact (bh_ HB)); (case aF => exact (fun _ _ => trivial)); (case aO => exact (by (with_reducible repeat (first | apply Kd.R_alloc | apply Kd.R_drewN | apply Kd.R_drew)); exact HO_5.out)); (case aS => exact (below_size (bh_ HB))); (case aL => have := LMc4.out; omega); intro v218 w6 ho hb hg hat; rw [← Ny217.out] at ho; have HO219 := Aside0.mk (ho); replace HB := Aside0.mk (hb); clear HO_5; clear ho hb hg hat))
     go_roundg k1
     case measure => have := HK1.out; omega
     case rel => exact ⟨(t215), (y217), (by first | rfl | (simp; done) | (simp [*]; done)), H', ⟨by have := HK1.out; omega⟩, ⟨by (with_reducible repeat (first | apply Kd.R_alloc | apply Kd.R_drewN | apply Kd.R_drew)); exact HO219.out⟩, ⟨bh_ HB⟩⟩
    ·replace c5 := Bool.eq_false_iff.mpr c5
     subst c5
     have H1 : (some y217) = some r := by rw [if_neg (show ¬ (false = true) by decide)] at H; exact H
     clear H
     have H := H1
     clear H1
     obtain rfl := Option.some.inj H
     go_wp2_with (first | ((with_reducible refine gate_callee (f := 44) rfl ?_); refine gl_ (some 12) rfl rfl Tryz.func44 (by kernel_rfl) rfl #[.string x0_1, .int .u8 a1] rfl ?_; (with_reducible refine (salvorref6_cutAt.calls k1 x0_1 a1 t214 t215 false _ A3.out).mono ?_); rintro e w' ⟨rfl, ⟨nd, rfl⟩⟩; refine ⟨_, rfl, ?_⟩) | ((with_reducible refine gate_builtin (b := .append) (xs := #[.tmp 16, .tmp 18]) rfl ?_); at_builtin; refine Kd.R_append Kd.string (w0 := w) w.heap.size rfl (.tmp 16) (.tmp 18) 22 9 (.string ⟨#[]⟩) 16 rfl Tryz.underlying22 info9 rfl (by decide) (by omega) u5 x5_1 t214 [.string t214] (fun _ => True) (fun _ => False) rfl rfl ?aP (fun _ hk => hk.elim) ?aF ?aO ?aB ?aS ?aL ?_; (case aP => exact rfl); (case aB => exact (bh_ HB)); (case aF => exact (fun _ _ => trivial)); (case aO => exact (by (with_reducible repeat (first | apply Kd.R_alloc | apply Kd.R_drewN | apply Kd.R_drew)); exact HO_5.out)); (case aS => exact (below_size (bh_ HB))); (case aL => have := LMc4.out; omega); intro v218 w7 ho hb hg hat; rw [← Ny217.out] at ho; have HO219 := Aside0.mk (ho); replace HB := Aside0.mk (hb); clear HO_5; clear ho hb hg hat))
     go_ret
     exact ⟨_, by first | rfl | (simp [errW_none, errW_some] <;> rfl) | (simp [*, errW_none, errW_some] <;> rfl), by (with_reducible repeat (first | apply Kd.R_alloc | apply Kd.R_drewN | apply Kd.R_drew)); exact HO219.out, bh_ HB⟩
   ·rw [if_neg c4] at H
    exact absurd H (by simp)
end Go.Proofs.YtbmhfnncagncmaaGreatDoor.P
