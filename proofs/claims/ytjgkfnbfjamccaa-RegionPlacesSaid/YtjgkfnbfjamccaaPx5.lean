/- Laid by a program of this session's own (wip/wprint.py, over the kit's print.py): functions of the given program as plain Lean functions, and that the program's calls come to their answers. -/
import Derived.Test.YtjgkfnbfjamccaaPx0
namespace Go.Proofs.Ytjgkfnbfjamccaa.P
open Go.RowKit Go.Proofs.YtjgkfnbfjamccaaW.PrintWords Go.Proofs.YtjgkfnbfjamccaaW.PrintLast Go.Proofs.YtjgkfnbfjamccaaW.PrintMore
attribute [local go_sem] max2_int min2_int max_two min_two max_three min_three max_four min_four   -- for this text's walks alone
set_option linter.unusedVariables false
set_option linter.unusedSimpArgs false

/-! ### region_end: function 32 -/
def region_end.f (l0 : List (S26)) : Option (Int) := if (l0.length : Int) = 0 then (some 0) else (if 0 ≤ (wrap64 ((l0.length : Int) - 1)) then (if (wrap64 ((l0.length : Int) - 1)) < (l0.length : Int) then (some (wrap64 (((rd_T26 l0 (wrap64 ((l0.length : Int) - 1))).f0) + ((rd_T26 l0 (wrap64 ((l0.length : Int) - 1))).f1)))) else (none)) else (none))
set_option maxHeartbeats 8000000 in
set_option maxRecDepth 100000 in
theorem region_end.calls (A0 : Option Addr) (c0 : Nat) (l0 : List (S26)) (r : Int) (w : World) (hr0 : Kd.C k26 w A0 l0.length l0) (hc0 : l0.length ≤ c0) (h : region_end.f l0 = some r) :
    Calls Try.prog 32 #[.slice A0 l0.length c0] w fun e w' => e = .returned (.int .i64 r) ∧ Below w.heap.size w w' := by
  have hu26 := Try.underlying26
  have HR0 := Aside0.mk hr0
  have HC0 := Aside0.mk hc0
  clear hr0 hc0
  have HB := Aside0.mk (Below.refl w.heap.size w)
  have H : (if (l0.length : Int) = 0 then (some 0) else (if 0 ≤ (wrap64 ((l0.length : Int) - 1)) then (if (wrap64 ((l0.length : Int) - 1)) < (l0.length : Int) then (some (wrap64 (((rd_T26 l0 (wrap64 ((l0.length : Int) - 1))).f0) + ((rd_T26 l0 (wrap64 ((l0.length : Int) - 1))).f1)))) else (none)) else (none))) = some r := h
  clear h
  by_cases c2 : (l0.length : Int) = 0
  · rw [if_pos c2] at H
    have c2b0 : ((l0.length : Int) == 0) = true := beq_iff_eq.mpr c2
    have c2b1 : ((l0.length : Int) != 0) = false := bne_eq_false_iff_eq.mpr c2
    clear c2
    obtain rfl := Option.some.inj H
    go_enter Try.func32, Try.ntmps32
    go_wp2
    go_ret
    exact ⟨by first | rfl | (simp [errW_none, errW_some] <;> rfl) | (simp [*, errW_none, errW_some] <;> rfl), bh_ HB⟩
  · rw [if_neg c2] at H
    have c2b0 : ((l0.length : Int) == 0) = false := beq_eq_false_iff_ne.mpr c2
    have c2b1 : ((l0.length : Int) != 0) = true := bne_iff_ne.mpr c2
    have c2b2 : ¬ (l0 = []) := fun h_ => c2 (by rw [h_]; rfl)
    obtain ⟨ji3, hji3⟩ : ∃ j_ : Int, (wrap64 ((l0.length : Int) - 1)) = j_ := ⟨_, rfl⟩
    replace H : (if 0 ≤ (ji3) then (if (ji3) < (l0.length : Int) then (some (wrap64 (((rd_T26 l0 (ji3)).f0) + ((rd_T26 l0 (ji3)).f1)))) else (none)) else (none)) = some r := by first | (rw [hji3] at H; exact H) | (simp only [hji3] at H ⊢; exact H)
    have hji3w : (IntKind.i64.wrap ((l0.length : Int) - 1)) = ji3 := (i64_w _).trans hji3
    by_cases c4 : 0 ≤ (ji3)
    · rw [if_pos c4] at H
      have c4b0 : decide (0 ≤ (ji3)) = true := decide_eq_true c4
      clear c4
      by_cases c5 : (ji3) < (l0.length : Int)
      · rw [if_pos c5] at H
        have c5b0 : decide ((ji3) < (l0.length : Int)) = true := decide_eq_true c5
        clear c5
        obtain rfl := Option.some.inj H
        have p111 : 0 ≤ ((ji3) : Int) := of_decide_eq_true (by first | (with_reducible assumption) | assumption)
        have q111 : (ji3) < (l0.length : Int) := of_decide_eq_true (by first | (with_reducible assumption) | assumption)
        obtain ⟨ad111, e111, hx111_0, hx111_1, hx111_2⟩ := at_T26 HR0.out (ji3) p111 q111
        cases e111
        replace p111 := eq_true p111
        replace q111 := eq_true q111
        go_enter Try.func32, Try.ntmps32
        go_wp2_with (first | ((with_reducible refine gate_dst (N := 3) rfl ?_); refine box_e 3 #[.int .i64 0, .int .i64 0, .int .u8 0] 26 ?_; intro gb112 hg w6 hbox hb; have BK112 := Aside0.mk hbox; have GW112 := bg_ HB hg; have GE112 := bg_ HB hg; replace HB := bs_ HB hb; clear hb hbox hg; obtain ⟨hcz7_0, hcz7_1, hcz7_2, hfz7_0, hfz7_1, hfz7_2⟩ := c3_ BK112))
        go_ret
        exact ⟨by first | rfl | (simp [errW_none, errW_some] <;> rfl) | (simp only [← hji3]; first | rfl | (simp [errW_none, errW_some] <;> rfl)) | (simp [*, errW_none, errW_some] <;> rfl), bh_ HB⟩
      · rw [if_neg c5] at H
        exact absurd H (by simp)
    · rw [if_neg c4] at H
      exact absurd H (by simp)

/-! ### region_Push: function 33 -/
def region_Push.f (l0 : List (S26)) (a1 : Int) (a2 : Int) : Option ((List (S26))) := if a1 < 1 then (some l0) else (if (wrap64 ((l0.length : Int) - 1)) ≥ 0 then (if 0 ≤ (wrap64 ((l0.length : Int) - 1)) then (if (wrap64 ((l0.length : Int) - 1)) < (l0.length : Int) then (if ((rd_T26 l0 (wrap64 ((l0.length : Int) - 1))).f2) = a2 then (some (l0.set ((wrap64 ((l0.length : Int) - 1)) : Int).toNat (⟨(rd_T26 l0 (wrap64 ((l0.length : Int) - 1))).f0, wrap64 (((rd_T26 l0 (wrap64 ((l0.length : Int) - 1))).f1) + a1), (rd_T26 l0 (wrap64 ((l0.length : Int) - 1))).f2⟩ : S26))) else ((region_end.f l0).bind fun t116 => (if l0.length < 5864062014805 then (some (l0 ++ [(⟨t116, a1, a2⟩ : S26)])) else (none)))) else (none)) else (none)) else ((region_end.f l0).bind fun t120 => (if l0.length < 5864062014805 then (some (l0 ++ [(⟨t120, a1, a2⟩ : S26)])) else (none))))
set_option maxHeartbeats 8000000 in
set_option maxRecDepth 100000 in
theorem region_Push.calls (P0_ : Nat → Prop) (u9000_ : Value) (l0 : List (S26)) (a1 : Int) (a2 : Int) (r : List (S26)) (w0 w : World) (hB : Below w0.heap.size w0 w) (ho0 : Kd.R k26 26 w w0.heap.size P0_ u9000_ l0) (h : region_Push.f l0 a1 a2 = some r) :
  Calls Try.prog 33 #[u9000_, .int .i64 a1, .int .u8 a2] w fun e w' => ∃ v0_ : Value, e = .returned (v0_) ∧ Kd.R k26 26 w' w0.heap.size (fun k_ => (P0_ k_ ∨ w.heap.size ≤ k_)) v0_ r ∧ Below w0.heap.size w0 w' ∧ Kept w w' (fun k_ => P0_ k_) := by
 have hu26 := Try.underlying26
 have HO0 := Aside0.mk (show Kd.R k26 26 w w0.heap.size (fun k_ => (P0_ k_ ∨ w.heap.size ≤ k_)) u9000_ l0 from Kd.R_mono ho0 (fun k_ hk => (.inl hk)))
 have HK := Aside0.mk (Kept.refl w (fun k_ => P0_ k_))
 have HW0 := Aside0.mk hB.size
 have HB := Aside0.mk hB
 clear hB
 have H : (if a1 < 1 then (some l0) else (if (wrap64 ((l0.length : Int) - 1)) ≥ 0 then (if 0 ≤ (wrap64 ((l0.length : Int) - 1)) then (if (wrap64 ((l0.length : Int) - 1)) < (l0.length : Int) then (if ((rd_T26 l0 (wrap64 ((l0.length : Int) - 1))).f2) = a2 then (some (l0.set ((wrap64 ((l0.length : Int) - 1)) : Int).toNat (⟨(rd_T26 l0 (wrap64 ((l0.length : Int) - 1))).f0, wrap64 (((rd_T26 l0 (wrap64 ((l0.length : Int) - 1))).f1) + a1), (rd_T26 l0 (wrap64 ((l0.length : Int) - 1))).f2⟩ : S26))) else ((region_end.f l0).bind fun t116 => (if l0.length < 5864062014805 then (some (l0 ++ [(⟨t116, a1, a2⟩ : S26)])) else (none)))) else (none)) else (none)) else ((region_end.f l0).bind fun t120 => (if l0.length < 5864062014805 then (some (l0 ++ [(⟨t120, a1, a2⟩ : S26)])) else (none))))) = some r := h
 clear h
 by_cases c4 : a1 < 1
 ·rw [if_pos c4] at H
  have c4b0 : decide (a1 < 1) = true := decide_eq_true c4
  clear c4
  obtain rfl := Option.some.inj H
  obtain ⟨Ao5, co5, eo5⟩ := Kd.R_slice HO0.out
  subst eo5
  go_enter Try.func33, Try.ntmps33
  go_wp2
  go_ret
  exact ⟨_, by first | rfl | (simp [errW_none, errW_some] <;> rfl) | (simp [*, errW_none, errW_some] <;> rfl), by (with_reducible repeat (first | apply Kd.R_alloc | apply Kd.R_drewN | apply Kd.R_drew)); exact HO0.out, by repeat (first | (with_reducible first | exact HB.out | apply below_alloc | apply pw_below_drewN | apply below_drew1) | exact HB.out), by repeat (first | (with_reducible first | exact HK.out | apply Kept.alloc | apply Kept.drewN | apply Kept.drew) | exact HK.out)⟩
 ·rw [if_neg c4] at H
  have c4b0 : decide (a1 < 1) = false := decide_eq_false c4
  clear c4
  by_cases c6 : (wrap64 ((l0.length : Int) - 1)) ≥ 0
  ·rw [if_pos c6] at H
   have c6b0 : decide (0 ≤ (wrap64 ((l0.length : Int) - 1))) = true := decide_eq_true c6
   clear c6
   obtain ⟨ji7, hji7⟩ : ∃ j_ : Int, (wrap64 ((l0.length : Int) - 1)) = j_ := ⟨_, rfl⟩
   replace H : (if 0 ≤ (ji7) then (if (ji7) < (l0.length : Int) then (if ((rd_T26 l0 (ji7)).f2) = a2 then (some (l0.set ((ji7) : Int).toNat (⟨(rd_T26 l0 (ji7)).f0, wrap64 (((rd_T26 l0 (ji7)).f1) + a1), (rd_T26 l0 (ji7)).f2⟩ : S26))) else ((region_end.f l0).bind fun t116 => (if l0.length < 5864062014805 then (some (l0 ++ [(⟨t116, a1, a2⟩ : S26)])) else (none)))) else (none)) else (none)) = some r := by first | (rw [hji7] at H; exact H) | (simp only [hji7] at H ⊢; exact H)
   (try rw [hji7] at c6b0)
   have hji7w : (IntKind.i64.wrap ((l0.length : Int) - 1)) = ji7 := (i64_w _).trans hji7
   by_cases c8 : 0 ≤ (ji7)
   ·rw [if_pos c8] at H
    have c8b0 : decide (0 ≤ (ji7)) = true := decide_eq_true c8
    clear c8
    by_cases c9 : (ji7) < (l0.length : Int)
    ·rw [if_pos c9] at H
     have c9b0 : decide ((ji7) < (l0.length : Int)) = true := decide_eq_true c9
     clear c9
     by_cases c10 : ((rd_T26 l0 (ji7)).f2) = a2
     ·rw [if_pos c10] at H
      have c10b0 : (((rd_T26 l0 (ji7)).f2) == a2) = true := beq_iff_eq.mpr c10
      have c10b1 : (((rd_T26 l0 (ji7)).f2) != a2) = false := bne_eq_false_iff_eq.mpr c10
      clear c10
      obtain ⟨y115, hy115⟩ : ∃ y_ : List (S26), y_ = (l0.set ((ji7) : Int).toNat (⟨(rd_T26 l0 (ji7)).f0, wrap64 (((rd_T26 l0 (ji7)).f1) + a1), (rd_T26 l0 (ji7)).f2⟩ : S26)) := ⟨_, rfl⟩
      replace H : (some y115) = some r := by first | (rw [hy115]; with_reducible exact H) | (have H2_ := (Option.bind_some _ _).symm.trans H; rw [hy115]; with_reducible exact H2_) | (have H2_ := (Option.bind_some _ _).symm.trans H; with_reducible exact H2_) | with_reducible exact H | (rw [hy115]; exact H) | exact H
      have Ny115 := Aside0.mk hy115
      clear hy115
      obtain rfl := Option.some.inj H
      obtain ⟨Ao12, co12, eo12⟩ := Kd.R_slice HO0.out
      subst eo12
      have p113 : 0 ≤ ((ji7) : Int) := of_decide_eq_true (by first | (with_reducible assumption) | assumption)
      have q113 : (ji7) < (l0.length : Int) := of_decide_eq_true (by first | (with_reducible assumption) | assumption)
      obtain ⟨ad113, e113, hx113_0, hx113_1, hx113_2⟩ := at_T26 (Kd.R_reads' HO0.out).2.2 (ji7) p113 q113
      cases e113
      replace p113 := eq_true p113
      replace q113 := eq_true q113
      have p114 : 0 ≤ ((ji7) : Int) := of_decide_eq_true (by first | (with_reducible assumption) | assumption)
      have q114 : (ji7) < (l0.length : Int) := of_decide_eq_true (by first | (with_reducible assumption) | assumption)
      obtain ⟨ad114, e114, hx114_0, hx114_1, hx114_2⟩ := at_T26 (Kd.R_reads' HO0.out).2.2 (ji7) p114 q114
      obtain rfl : ad113 = ad114 := (by injection e114)
      replace p114 := eq_true p114
      replace q114 := eq_true q114
      have p11 : 0 ≤ ((ji7) : Int) := of_decide_eq_true (by first | (with_reducible assumption) | assumption)
      have q11 : ((ji7) : Int) < ((l0.length : Int) : Int) := of_decide_eq_true (by first | (with_reducible assumption) | assumption)
      obtain ⟨go11, co11, eo11, gb11, gl11, cl11, HG11⟩ := Kd.R_form HO0.out (by omega)
      (first | cases eo11 | (injection eo11 with ea_ en_ ec_; (first | subst ea_ | (injection ea_ with ea_; subst ea_)); subst ec_; clear en_))
      have GB11 := Aside0.mk gb11
      have GG11 := Aside0.mk HG11
      clear gb11 gl11 HG11
      have HMgo11 := Aside0.mk (show (P0_ go11 ∨ w.heap.size ≤ go11) from (HO0.out.1 _ rfl))
      (first | simp only [add_plain] at hx113_0 | skip)
      (first | simp only [add_plain] at hx113_1 | skip)
      (first | simp only [add_plain] at hx113_2 | skip)
      (first | simp only [add_plain] at hx114_0 | skip)
      (first | simp only [add_plain] at hx114_1 | skip)
      (first | simp only [add_plain] at hx114_2 | skip)
      obtain ⟨ce11, hcl11, hM11, hcc11, hfr11⟩ := Kd.R_elem HO0.out z26 ((ji7) : Int) p11 q11
      obtain rfl := k26_openM hM11
      have hx11_0 : w.cell? ⟨go11, ((ji7) : Int).toNat * 3, none⟩ = some (.int .i64 ((rd_T26 l0 (ji7)).f0)) := hcc11 0 _ rfl
      have hx11_1 : w.cell? ⟨go11, ((ji7) : Int).toNat * 3 + 1, none⟩ = some (.int .i64 ((rd_T26 l0 (ji7)).f1)) := hcc11 1 _ rfl
      have hx11_2 : w.cell? ⟨go11, ((ji7) : Int).toNat * 3 + 2, none⟩ = some (.int .u8 ((rd_T26 l0 (ji7)).f2)) := hcc11 2 _ rfl
      have hf11_0 : w.frozen? ⟨go11, ((ji7) : Int).toNat * 3, none⟩ = false := hfr11 0
      have hf11_1 : w.frozen? ⟨go11, ((ji7) : Int).toNat * 3 + 1, none⟩ = false := hfr11 1
      have hf11_2 : w.frozen? ⟨go11, ((ji7) : Int).toNat * 3 + 2, none⟩ = false := hfr11 2
      clear hcl11 hcc11 hfr11 hM11
      replace p11 := eq_true p11
      replace q11 := eq_true q11
      have HX13 := Aside0.mk (show Kd.R k26 26 w w0.heap.size (fun k_ => (P0_ k_ ∨ w.heap.size ≤ k_)) (.slice (some ⟨go11, 0, none⟩) l0.length co12) l0 from (by (with_reducible repeat (first | apply Kd.R_alloc | apply Kd.R_drewN | apply Kd.R_drew)); exact HO0.out))
      obtain ⟨ce13, hcl13, hM13, hcc13, hfr13⟩ := Kd.R_elem HX13.out z26 ((ji7) : Int) (of_decide_eq_true (by first | (with_reducible assumption) | assumption)) (by have h_ : ((ji7) : Int) < ((l0.length : Int) : Int) := of_decide_eq_true (by first | (with_reducible assumption) | assumption); first | exact h_ | (have e_ := (Kd.R_reads' HO0.out).1; omega) | simpa using h_)
      obtain rfl := k26_openM hM13
      have HP13 := Kd.R_seg HX13.out ((ji7) : Int) (of_decide_eq_true (by first | (with_reducible assumption) | assumption)) (by have h_ : ((ji7) : Int) < ((l0.length : Int) : Int) := of_decide_eq_true (by first | (with_reducible assumption) | assumption); first | exact h_ | (have e_ := (Kd.R_reads' HO0.out).1; omega) | simpa using h_) (seg := [.int .i64 (wrap64 (((rd_T26 l0 (ji7)).f1) + a1))]) (j := 1) hcl13 hcc13 (show 2 ≤ 3 from by decide) (x' := (⟨(rd_T26 l0 (ji7)).f0, wrap64 (((rd_T26 l0 (ji7)).f1) + a1), (rd_T26 l0 (ji7)).f2⟩ : S26)) (k26_mkM _ _ _ (⟨(rd_T26 l0 (ji7)).f0, wrap64 (((rd_T26 l0 (ji7)).f1) + a1), (rd_T26 l0 (ji7)).f2⟩ : S26) ) (fun _ hk => hk)
      have hx13_1 := hcc13 1 _ rfl
      (try simp only [show (k26).sz = 3 from rfl, Nat.mul_one, Nat.add_zero] at hx13_1)
      have hf13_1 := hfr13 1
      (try simp only [show (k26).sz = 3 from rfl, Nat.mul_one, Nat.add_zero] at hf13_1)
      clear hcl13 hcc13 hfr13 hM13
      go_enter Try.func33, Try.ntmps33
      go_wp2_with (first | ((with_reducible refine gate_store (t := 3) (p := 35) rfl ?_); refine store_event (t := 3) (p := 35) (v := ?vo_w14) (w1 := (w.setCell ⟨go11, ((ji7) : Int).toNat * 3 + 1, none⟩ (.int .i64 (wrap64 (((rd_T26 l0 (ji7)).f1) + a1))))) ?hg ?ho ?hn ?hr ?_; (case ho => rfl); (case hg => rfl); (case hn => rfl); (case hr => first | (go_simp; done) | (go_simp; rfl)); intro w14 hw; have hg : w.grownBy w14 (some go11) := (by rw [hw]; exact HP13.2); have hp_ : Kd.R k26 26 w14 w0.heap.size (fun k_ => (P0_ k_ ∨ w.heap.size ≤ k_)) (.slice (some ⟨go11, 0, none⟩) l0.length co12) y115 := (by rw [hw, Ny115.out]; exact HP13.1); clear HP13; have n0_ := Aside0.mk (hp_); have n1_ := Aside0.mk ((by rw [hw]; exact below_set (HB.out) GB11.out : Below w0.heap.size w0 w14)); have n2_ := Aside0.mk (Kept.of_grown (S := (fun k_ => P0_ k_)) hg (by repeat (first | (with_reducible first | exact HK.out | apply Kept.alloc | apply Kept.drewN | apply Kept.drew) | exact HK.out)) (fun k_ e_ => (HO0.out.1 k_ e_))); clear HO0; clear HB; clear HK; have HO0 := n0_; have HB := n1_; have HK := n2_; clear n0_ n1_ n2_; clear hg hw hp_))
      go_ret
      exact ⟨_, by first | rfl | (simp [errW_none, errW_some] <;> rfl) | (simp only [← hji7]; first | rfl | (simp [errW_none, errW_some] <;> rfl)) | (simp [*, errW_none, errW_some] <;> rfl), by (with_reducible repeat (first | apply Kd.R_alloc | apply Kd.R_drewN | apply Kd.R_drew)); exact HO0.out, by repeat (first | (with_reducible first | exact HB.out | apply below_alloc | apply pw_below_drewN | apply below_drew1) | exact HB.out), by repeat (first | (with_reducible first | exact HK.out | apply Kept.alloc | apply Kept.drewN | apply Kept.drew) | exact HK.out)⟩
     ·rw [if_neg c10] at H
      have c10b0 : (((rd_T26 l0 (ji7)).f2) == a2) = false := beq_eq_false_iff_ne.mpr c10
      have c10b1 : (((rd_T26 l0 (ji7)).f2) != a2) = true := bne_iff_ne.mpr c10
      replace H := Option.bind_eq_some_iff.mp H
      obtain ⟨t116, A150, H⟩ := H
      replace H : (if l0.length < 5864062014805 then (some (l0 ++ [(⟨t116, a1, a2⟩ : S26)])) else (none)) = some r := H
      have A15 := Aside0.mk A150
      clear A150
      by_cases c16 : l0.length < 5864062014805
      ·rw [if_pos c16] at H
       have LMc16 := Aside0.mk c16
       clear c16
       obtain ⟨y117, hy117⟩ : ∃ y_ : List (S26), y_ = (l0 ++ [(⟨t116, a1, a2⟩ : S26)]) := ⟨_, rfl⟩
       replace H : (some y117) = some r := by first | (rw [hy117]; with_reducible exact H) | (have H2_ := (Option.bind_some _ _).symm.trans H; rw [hy117]; with_reducible exact H2_) | (have H2_ := (Option.bind_some _ _).symm.trans H; with_reducible exact H2_) | with_reducible exact H | (rw [hy117]; exact H) | exact H
       have Ny117 := Aside0.mk hy117
       clear hy117
       obtain rfl := Option.some.inj H
       obtain ⟨Ao17, co17, eo17⟩ := Kd.R_slice HO0.out
       subst eo17
       have p113 : 0 ≤ ((ji7) : Int) := of_decide_eq_true (by first | (with_reducible assumption) | assumption)
       have q113 : (ji7) < (l0.length : Int) := of_decide_eq_true (by first | (with_reducible assumption) | assumption)
       obtain ⟨ad113, e113, hx113_0, hx113_1, hx113_2⟩ := at_T26 (Kd.R_reads' HO0.out).2.2 (ji7) p113 q113
       cases e113
       replace p113 := eq_true p113
       replace q113 := eq_true q113
       go_enter Try.func33, Try.ntmps33
       go_wp2_with (first | ((with_reducible refine gate_callee (f := 32) rfl ?_); refine gl_ (some 39) rfl rfl Try.func32 (by kernel_rfl) rfl #[.slice (some ad113) l0.length co17] rfl ?_; (with_reducible refine (region_end.calls _ _ l0 t116 _ ?side1 ?side2 A15.out).mono ?_); (case side1 => repeat (first | exact (Kd.R_reads' HO0.out).2.2 | (with_reducible refine Kd.C_alloc ?_ _) | (with_reducible refine Kd.C_drewN ?_ _) | (with_reducible refine Kd.C_drew ?_))); (case side2 => exact (Kd.R_reads' HO0.out).2.1); rintro e w18 ⟨rfl, hb⟩; refine ⟨_, rfl, ?_⟩; have n0_ := Aside0.mk (Kd.R_below (by (with_reducible repeat (first | apply Kd.R_alloc | apply Kd.R_drewN | apply Kd.R_drew)); exact HO0.out) hb); have n1_ := Aside0.mk (Kept.below (S := (fun k_ => P0_ k_)) (by repeat (first | (with_reducible first | exact HK.out | apply Kept.alloc | apply Kept.drewN | apply Kept.drew) | exact HK.out)) hb); have n2_ := bs_ HB hb; clear HO0; clear HK; clear HB; have HO0 := n0_; have HK := n1_; have HB := n2_; clear n0_ n1_ n2_; (try clear hb)) | ((with_reducible refine gate_builtin (b := .append) (xs := #[.tmp 37, .tmp 43]) rfl ?_); at_builtin; refine Kd.R_append k26 (w0 := w0) w0.heap.size rfl (.tmp 37) (.tmp 43) 22 26 (.agg #[(.int .i64 0), (.int .i64 0), (.int .u8 0)]) 24 rfl Try.underlying22 info26 rfl (by decide) (by omega) (.slice (some ad113) l0.length co17) l0 (⟨t116, a1, a2⟩ : S26) [.int .i64 t116, .int .i64 a1, .int .u8 a2] (fun k_ => (P0_ k_ ∨ w.heap.size ≤ k_)) (fun _ => False) rfl rfl ?aP (fun _ hk => hk.elim) ?aF ?aO ?aB ?aS ?aL ?_; (case aP => exact k26_mkM _ _ _ (⟨t116, a1, a2⟩ : S26)); (case aB => exact (bh_ HB)); (case aF => exact (fun k_ hk => (.inr (Nat.le_trans (by first | exact HK.out.1 | exact (show Kept w _ (fun k_ => P0_ k_) from by repeat (first | (with_reducible first | exact HK.out | apply Kept.alloc | apply Kept.drewN | apply Kept.drew) | exact HK.out)).1) hk)))); (case aO => exact (by (with_reducible repeat (first | apply Kd.R_alloc | apply Kd.R_drewN | apply Kd.R_drew)); exact HO0.out)); (case aS => exact (below_size (bh_ HB))); (case aL => have := LMc16.out; omega); intro v118 w19 ho hb hg hat; rw [← Ny117.out] at ho; have HO119 := Aside0.mk (ho); replace HB := Aside0.mk (hb); replace HK := Aside0.mk (Kept.of_grown (S := (fun k_ => P0_ k_)) hg (by repeat (first | (with_reducible first | exact HK.out | apply Kept.alloc | apply Kept.drewN | apply Kept.drew) | exact HK.out)) (fun k_ e_ => (HO0.out.1 k_ e_))); clear HO0; clear ho hb hg hat))
       go_ret
       exact ⟨_, by first | rfl | (simp [errW_none, errW_some] <;> rfl) | (simp only [← hji7]; first | rfl | (simp [errW_none, errW_some] <;> rfl)) | (simp [*, errW_none, errW_some] <;> rfl), by (with_reducible repeat (first | apply Kd.R_alloc | apply Kd.R_drewN | apply Kd.R_drew)); exact HO119.out, by repeat (first | (with_reducible first | exact HB.out | apply below_alloc | apply pw_below_drewN | apply below_drew1) | exact HB.out), by repeat (first | (with_reducible first | exact HK.out | apply Kept.alloc | apply Kept.drewN | apply Kept.drew) | exact HK.out)⟩
      ·rw [if_neg c16] at H
       exact absurd H (by simp)
    ·rw [if_neg c9] at H
     exact absurd H (by simp)
   ·rw [if_neg c8] at H
    exact absurd H (by simp)
  ·rw [if_neg c6] at H
   have c6b0 : decide (0 ≤ (wrap64 ((l0.length : Int) - 1))) = false := decide_eq_false c6
   clear c6
   replace H := Option.bind_eq_some_iff.mp H
   obtain ⟨t120, A200, H⟩ := H
   replace H : (if l0.length < 5864062014805 then (some (l0 ++ [(⟨t120, a1, a2⟩ : S26)])) else (none)) = some r := H
   have A20 := Aside0.mk A200
   clear A200
   by_cases c21 : l0.length < 5864062014805
   ·rw [if_pos c21] at H
    have LMc21 := Aside0.mk c21
    clear c21
    obtain ⟨y121, hy121⟩ : ∃ y_ : List (S26), y_ = (l0 ++ [(⟨t120, a1, a2⟩ : S26)]) := ⟨_, rfl⟩
    replace H : (some y121) = some r := by first | (rw [hy121]; with_reducible exact H) | (have H2_ := (Option.bind_some _ _).symm.trans H; rw [hy121]; with_reducible exact H2_) | (have H2_ := (Option.bind_some _ _).symm.trans H; with_reducible exact H2_) | with_reducible exact H | (rw [hy121]; exact H) | exact H
    have Ny121 := Aside0.mk hy121
    clear hy121
    obtain rfl := Option.some.inj H
    obtain ⟨Ao22, co22, eo22⟩ := Kd.R_slice HO0.out
    subst eo22
    go_enter Try.func33, Try.ntmps33
    go_wp2_with (first | ((with_reducible refine gate_callee (f := 32) rfl ?_); refine gl_ (some 39) rfl rfl Try.func32 (by kernel_rfl) rfl #[.slice Ao22 l0.length co22] rfl ?_; (with_reducible refine (region_end.calls _ _ l0 t120 _ ?side1 ?side2 A20.out).mono ?_); (case side1 => repeat (first | exact (Kd.R_reads' HO0.out).2.2 | (with_reducible refine Kd.C_alloc ?_ _) | (with_reducible refine Kd.C_drewN ?_ _) | (with_reducible refine Kd.C_drew ?_))); (case side2 => exact (Kd.R_reads' HO0.out).2.1); rintro e w23 ⟨rfl, hb⟩; refine ⟨_, rfl, ?_⟩; have n0_ := Aside0.mk (Kd.R_below (by (with_reducible repeat (first | apply Kd.R_alloc | apply Kd.R_drewN | apply Kd.R_drew)); exact HO0.out) hb); have n1_ := Aside0.mk (Kept.below (S := (fun k_ => P0_ k_)) (by repeat (first | (with_reducible first | exact HK.out | apply Kept.alloc | apply Kept.drewN | apply Kept.drew) | exact HK.out)) hb); have n2_ := bs_ HB hb; clear HO0; clear HK; clear HB; have HO0 := n0_; have HK := n1_; have HB := n2_; clear n0_ n1_ n2_; (try clear hb)) | ((with_reducible refine gate_builtin (b := .append) (xs := #[.tmp 37, .tmp 43]) rfl ?_); at_builtin; refine Kd.R_append k26 (w0 := w0) w0.heap.size rfl (.tmp 37) (.tmp 43) 22 26 (.agg #[(.int .i64 0), (.int .i64 0), (.int .u8 0)]) 24 rfl Try.underlying22 info26 rfl (by decide) (by omega) (.slice Ao22 l0.length co22) l0 (⟨t120, a1, a2⟩ : S26) [.int .i64 t120, .int .i64 a1, .int .u8 a2] (fun k_ => (P0_ k_ ∨ w.heap.size ≤ k_)) (fun _ => False) rfl rfl ?aP (fun _ hk => hk.elim) ?aF ?aO ?aB ?aS ?aL ?_; (case aP => exact k26_mkM _ _ _ (⟨t120, a1, a2⟩ : S26)); (case aB => exact (bh_ HB)); (case aF => exact (fun k_ hk => (.inr (Nat.le_trans (by first | exact HK.out.1 | exact (show Kept w _ (fun k_ => P0_ k_) from by repeat (first | (with_reducible first | exact HK.out | apply Kept.alloc | apply Kept.drewN | apply Kept.drew) | exact HK.out)).1) hk)))); (case aO => exact (by (with_reducible repeat (first | apply Kd.R_alloc | apply Kd.R_drewN | apply Kd.R_drew)); exact HO0.out)); (case aS => exact (below_size (bh_ HB))); (case aL => have := LMc21.out; omega); intro v122 w24 ho hb hg hat; rw [← Ny121.out] at ho; have HO123 := Aside0.mk (ho); replace HB := Aside0.mk (hb); replace HK := Aside0.mk (Kept.of_grown (S := (fun k_ => P0_ k_)) hg (by repeat (first | (with_reducible first | exact HK.out | apply Kept.alloc | apply Kept.drewN | apply Kept.drew) | exact HK.out)) (fun k_ e_ => (HO0.out.1 k_ e_))); clear HO0; clear ho hb hg hat))
    go_ret
    exact ⟨_, by first | rfl | (simp [errW_none, errW_some] <;> rfl) | (simp [*, errW_none, errW_some] <;> rfl), by (with_reducible repeat (first | apply Kd.R_alloc | apply Kd.R_drewN | apply Kd.R_drew)); exact HO123.out, by repeat (first | (with_reducible first | exact HB.out | apply below_alloc | apply pw_below_drewN | apply below_drew1) | exact HB.out), by repeat (first | (with_reducible first | exact HK.out | apply Kept.alloc | apply Kept.drewN | apply Kept.drew) | exact HK.out)⟩
   ·rw [if_neg c21] at H
    exact absurd H (by simp)

end Go.Proofs.Ytjgkfnbfjamccaa.P
