/- Laid by a program of this session's own (wip/wprint.py, over the kit's print.py): functions of the given program as plain Lean functions, and that the program's calls come to their answers. -/
import Derived.Test.YtlcablcpcbmgeaaGreatDoorPx0
import Derived.Test.YtlcablcpcbmgeaaGreatDoorPx4
namespace Go.Proofs.YtlcablcpcbmgeaaGreatDoor.P
open Go.RowKit Go.Proofs.YtlcablcpcbmgeaaGreatDoorW.PrintWords Go.Proofs.YtlcablcpcbmgeaaGreatDoorW.PrintLast Go.Proofs.YtlcablcpcbmgeaaGreatDoorW.PrintMore
attribute [local go_sem] max2_int min2_int max_two min_two max_three min_three max_four min_four   -- for this text's walks alone
set_option linter.unusedVariables false
set_option linter.unusedSimpArgs false

/-! ### region_Push: function 62 -/
def region_Push.f (l0 : List (S23)) (a1 : Int) (a2 : Int) : Option ((List (S23))) := if a1 < 1 then (some l0) else (if (wrap64 ((l0.length : Int) - 1)) ≥ 0 then (if 0 ≤ (wrap64 ((l0.length : Int) - 1)) then (if (wrap64 ((l0.length : Int) - 1)) < (l0.length : Int) then (if ((rd_T23 l0 (wrap64 ((l0.length : Int) - 1))).f2) = a2 then (some (l0.set ((wrap64 ((l0.length : Int) - 1)) : Int).toNat (⟨(rd_T23 l0 (wrap64 ((l0.length : Int) - 1))).f0, wrap64 (((rd_T23 l0 (wrap64 ((l0.length : Int) - 1))).f1) + a1), (rd_T23 l0 (wrap64 ((l0.length : Int) - 1))).f2⟩ : S23))) else ((region_end.f l0).bind fun t141 => (if l0.length < 5864062014805 then (some (l0 ++ [(⟨t141, a1, a2⟩ : S23)])) else (none)))) else (none)) else (none)) else ((region_end.f l0).bind fun t145 => (if l0.length < 5864062014805 then (some (l0 ++ [(⟨t145, a1, a2⟩ : S23)])) else (none))))
set_option maxHeartbeats 8000000 in
set_option maxRecDepth 100000 in
theorem region_Push.calls (P0_ : Nat → Prop) (u9000_ : Value) (l0 : List (S23)) (a1 : Int) (a2 : Int) (r : List (S23)) (w0 w : World) (hB : Below w0.heap.size w0 w) (ho0 : Kd.R k23 23 w w0.heap.size P0_ u9000_ l0) (h : region_Push.f l0 a1 a2 = some r) :
  Calls Tryz.prog 62 #[u9000_, .int .i64 a1, .int .u8 a2] w fun e w' => ∃ v0_ : Value, e = .returned (v0_) ∧ Kd.R k23 23 w' w0.heap.size (fun k_ => (P0_ k_ ∨ w.heap.size ≤ k_)) v0_ r ∧ Below w0.heap.size w0 w' ∧ Kept w w' (fun k_ => P0_ k_) := by
 have hu23 := Tryz.underlying23
 have HO0 := Aside0.mk (show Kd.R k23 23 w w0.heap.size (fun k_ => (P0_ k_ ∨ w.heap.size ≤ k_)) u9000_ l0 from Kd.R_mono ho0 (fun k_ hk => (.inl hk)))
 have HK := Aside0.mk (Kept.refl w (fun k_ => P0_ k_))
 have HW0 := Aside0.mk hB.size
 have HB := Aside0.mk hB
 clear hB
 have H : (if a1 < 1 then (some l0) else (if (wrap64 ((l0.length : Int) - 1)) ≥ 0 then (if 0 ≤ (wrap64 ((l0.length : Int) - 1)) then (if (wrap64 ((l0.length : Int) - 1)) < (l0.length : Int) then (if ((rd_T23 l0 (wrap64 ((l0.length : Int) - 1))).f2) = a2 then (some (l0.set ((wrap64 ((l0.length : Int) - 1)) : Int).toNat (⟨(rd_T23 l0 (wrap64 ((l0.length : Int) - 1))).f0, wrap64 (((rd_T23 l0 (wrap64 ((l0.length : Int) - 1))).f1) + a1), (rd_T23 l0 (wrap64 ((l0.length : Int) - 1))).f2⟩ : S23))) else ((region_end.f l0).bind fun t141 => (if l0.length < 5864062014805 then (some (l0 ++ [(⟨t141, a1, a2⟩ : S23)])) else (none)))) else (none)) else (none)) else ((region_end.f l0).bind fun t145 => (if l0.length < 5864062014805 then (some (l0 ++ [(⟨t145, a1, a2⟩ : S23)])) else (none))))) = some r := h
 clear h
 by_cases c4 : a1 < 1
 ·rw [if_pos c4] at H
  have c4b0 : decide (a1 < 1) = true := decide_eq_true c4
  clear c4
  obtain rfl := Option.some.inj H
  obtain ⟨Ao5, co5, eo5⟩ := Kd.R_slice HO0.out
  subst eo5
  go_enter Tryz.func62, Tryz.ntmps62
  go_wp2
  go_ret
  exact ⟨_, by first | rfl | (simp [errW_none, errW_some] <;> rfl) | (simp [*, errW_none, errW_some] <;> rfl), by (with_reducible repeat (first | apply Kd.R_alloc | apply Kd.R_drewN | apply Kd.R_drew)); exact HO0.out, by repeat (first | (with_reducible first | exact HB.out | apply below_alloc | apply pw_below_drewN | apply below_drew1) | exact HB.out), by repeat (first | (with_reducible first | exact HK.out | apply Kept.alloc | apply Kept.drewN | apply Kept.drew) | exact HK.out)⟩
 ·rw [if_neg c4] at H
  have c4b0 : decide (a1 < 1) = false := decide_eq_false c4
  clear c4
  by_cases c6 : (wrap64 ((l0.length : Int) - 1)) ≥ 0
  ·rw [if_pos c6] at H
   have c6b0 : decide (0 ≤ (wrap64 ((l0.length : Int) - 1))) = true := decide_eq_true c6
   clear c6
   obtain ⟨ji7, hji7⟩ : ∃ j_ : Int, (wrap64 ((l0.length : Int) - 1)) = j_ := ⟨_, rfl⟩
   replace H : (if 0 ≤ (ji7) then (if (ji7) < (l0.length : Int) then (if ((rd_T23 l0 (ji7)).f2) = a2 then (some (l0.set ((ji7) : Int).toNat (⟨(rd_T23 l0 (ji7)).f0, wrap64 (((rd_T23 l0 (ji7)).f1) + a1), (rd_T23 l0 (ji7)).f2⟩ : S23))) else ((region_end.f l0).bind fun t141 => (if l0.length < 5864062014805 then (some (l0 ++ [(⟨t141, a1, a2⟩ : S23)])) else (none)))) else (none)) else (none)) = some r := by first | (rw [hji7] at H; exact H) | (simp only [hji7] at H ⊢; exact H)
   (try rw [hji7] at c6b0)
   have hji7w : (IntKind.i64.wrap ((l0.length : Int) - 1)) = ji7 := (i64_w _).trans hji7
   by_cases c8 : 0 ≤ (ji7)
   ·rw [if_pos c8] at H
    have c8b0 : decide (0 ≤ (ji7)) = true := decide_eq_true c8
    clear c8
    by_cases c9 : (ji7) < (l0.length : Int)
    ·rw [if_pos c9] at H
     have c9b0 : decide ((ji7) < (l0.length : Int)) = true := decide_eq_true c9
     clear c9
     by_cases c10 : ((rd_T23 l0 (ji7)).f2) = a2
     ·rw [if_pos c10] at H
      have c10b0 : (((rd_T23 l0 (ji7)).f2) == a2) = true := beq_iff_eq.mpr c10
      have c10b1 : (((rd_T23 l0 (ji7)).f2) != a2) = false := bne_eq_false_iff_eq.mpr c10
      clear c10
      obtain ⟨y140, hy140⟩ : ∃ y_ : List (S23), y_ = (l0.set ((ji7) : Int).toNat (⟨(rd_T23 l0 (ji7)).f0, wrap64 (((rd_T23 l0 (ji7)).f1) + a1), (rd_T23 l0 (ji7)).f2⟩ : S23)) := ⟨_, rfl⟩
      replace H : (some y140) = some r := by first | (rw [hy140]; with_reducible exact H) | (have H2_ := (Option.bind_some _ _).symm.trans H; rw [hy140]; with_reducible exact H2_) | (have H2_ := (Option.bind_some _ _).symm.trans H; with_reducible exact H2_) | with_reducible exact H | (rw [hy140]; exact H) | exact H
      have Ny140 := Aside0.mk hy140
      clear hy140
      obtain rfl := Option.some.inj H
      obtain ⟨Ao12, co12, eo12⟩ := Kd.R_slice HO0.out
      subst eo12
      have p138 : 0 ≤ ((ji7) : Int) := of_decide_eq_true (by first | (with_reducible assumption) | assumption)
      have q138 : (ji7) < (l0.length : Int) := of_decide_eq_true (by first | (with_reducible assumption) | assumption)
      obtain ⟨ad138, e138, hx138_0, hx138_1, hx138_2⟩ := at_T23 (Kd.R_reads' HO0.out).2.2 (ji7) p138 q138
      cases e138
      replace p138 := eq_true p138
      replace q138 := eq_true q138
      have p139 : 0 ≤ ((ji7) : Int) := of_decide_eq_true (by first | (with_reducible assumption) | assumption)
      have q139 : (ji7) < (l0.length : Int) := of_decide_eq_true (by first | (with_reducible assumption) | assumption)
      obtain ⟨ad139, e139, hx139_0, hx139_1, hx139_2⟩ := at_T23 (Kd.R_reads' HO0.out).2.2 (ji7) p139 q139
      obtain rfl : ad138 = ad139 := (by injection e139)
      replace p139 := eq_true p139
      replace q139 := eq_true q139
      have p11 : 0 ≤ ((ji7) : Int) := of_decide_eq_true (by first | (with_reducible assumption) | assumption)
      have q11 : ((ji7) : Int) < ((l0.length : Int) : Int) := of_decide_eq_true (by first | (with_reducible assumption) | assumption)
      obtain ⟨go11, co11, eo11, gb11, gl11, cl11, HG11⟩ := Kd.R_form HO0.out (by omega)
      (first | cases eo11 | (injection eo11 with ea_ en_ ec_; (first | subst ea_ | (injection ea_ with ea_; subst ea_)); subst ec_; clear en_))
      have GB11 := Aside0.mk gb11
      have GG11 := Aside0.mk HG11
      clear gb11 gl11 HG11
      have HMgo11 := Aside0.mk (show (P0_ go11 ∨ w.heap.size ≤ go11) from (HO0.out.1 _ rfl))
      (first | simp only [add_plain] at hx138_0 | skip)
      (first | simp only [add_plain] at hx138_1 | skip)
      (first | simp only [add_plain] at hx138_2 | skip)
      (first | simp only [add_plain] at hx139_0 | skip)
      (first | simp only [add_plain] at hx139_1 | skip)
      (first | simp only [add_plain] at hx139_2 | skip)
      obtain ⟨ce11, hcl11, hM11, hcc11, hfr11⟩ := Kd.R_elem HO0.out z23 ((ji7) : Int) p11 q11
      obtain rfl := k23_openM hM11
      have hx11_0 : w.cell? ⟨go11, ((ji7) : Int).toNat * 3, none⟩ = some (.int .i64 ((rd_T23 l0 (ji7)).f0)) := hcc11 0 _ rfl
      have hx11_1 : w.cell? ⟨go11, ((ji7) : Int).toNat * 3 + 1, none⟩ = some (.int .i64 ((rd_T23 l0 (ji7)).f1)) := hcc11 1 _ rfl
      have hx11_2 : w.cell? ⟨go11, ((ji7) : Int).toNat * 3 + 2, none⟩ = some (.int .u8 ((rd_T23 l0 (ji7)).f2)) := hcc11 2 _ rfl
      have hf11_0 : w.frozen? ⟨go11, ((ji7) : Int).toNat * 3, none⟩ = false := hfr11 0
      have hf11_1 : w.frozen? ⟨go11, ((ji7) : Int).toNat * 3 + 1, none⟩ = false := hfr11 1
      have hf11_2 : w.frozen? ⟨go11, ((ji7) : Int).toNat * 3 + 2, none⟩ = false := hfr11 2
      clear hcl11 hcc11 hfr11 hM11
      replace p11 := eq_true p11
      replace q11 := eq_true q11
      have HX13 := Aside0.mk (show Kd.R k23 23 w w0.heap.size (fun k_ => (P0_ k_ ∨ w.heap.size ≤ k_)) (.slice (some ⟨go11, 0, none⟩) l0.length co12) l0 from (by (with_reducible repeat (first | apply Kd.R_alloc | apply Kd.R_drewN | apply Kd.R_drew)); exact HO0.out))
      obtain ⟨ce13, hcl13, hM13, hcc13, hfr13⟩ := Kd.R_elem HX13.out z23 ((ji7) : Int) (of_decide_eq_true (by first | (with_reducible assumption) | assumption)) (by have h_ : ((ji7) : Int) < ((l0.length : Int) : Int) := of_decide_eq_true (by first | (with_reducible assumption) | assumption); first | exact h_ | (have e_ := (Kd.R_reads' HO0.out).1; omega) | simpa using h_)
      obtain rfl := k23_openM hM13
      have HP13 := Kd.R_seg HX13.out ((ji7) : Int) (of_decide_eq_true (by first | (with_reducible assumption) | assumption)) (by have h_ : ((ji7) : Int) < ((l0.length : Int) : Int) := of_decide_eq_true (by first | (with_reducible assumption) | assumption); first | exact h_ | (have e_ := (Kd.R_reads' HO0.out).1; omega) | simpa using h_) (seg := [.int .i64 (wrap64 (((rd_T23 l0 (ji7)).f1) + a1))]) (j := 1) hcl13 hcc13 (show 2 ≤ 3 from by decide) (x' := (⟨(rd_T23 l0 (ji7)).f0, wrap64 (((rd_T23 l0 (ji7)).f1) + a1), (rd_T23 l0 (ji7)).f2⟩ : S23)) (k23_mkM _ _ _ (⟨(rd_T23 l0 (ji7)).f0, wrap64 (((rd_T23 l0 (ji7)).f1) + a1), (rd_T23 l0 (ji7)).f2⟩ : S23) ) (fun _ hk => hk)
      have hx13_1 := hcc13 1 _ rfl
      (try simp only [show (k23).sz = 3 from rfl, Nat.mul_one, Nat.add_zero] at hx13_1)
      have hf13_1 := hfr13 1
      (try simp only [show (k23).sz = 3 from rfl, Nat.mul_one, Nat.add_zero] at hf13_1)
      clear hcl13 hcc13 hfr13 hM13
      go_enter Tryz.func62, Tryz.ntmps62
      go_wp2_with (first | ((with_reducible refine gate_store (t := 3) (p := 35) rfl ?_); refine store_event (t := 3) (p := 35) (v := ?vo_w14) (w1 := (w.setCell ⟨go11, ((ji7) : Int).toNat * 3 + 1, none⟩ (.int .i64 (wrap64 (((rd_T23 l0 (ji7)).f1) + a1))))) ?hg ?ho ?hn ?hr ?_; (case ho => rfl); (case hg => rfl); (case hn => rfl); (case hr => first | (go_simp; done) | (go_simp; rfl)); intro w14 hw; have hg : w.grownBy w14 (some go11) := (by rw [hw]; exact HP13.2); have hp_ : Kd.R k23 23 w14 w0.heap.size (fun k_ => (P0_ k_ ∨ w.heap.size ≤ k_)) (.slice (some ⟨go11, 0, none⟩) l0.length co12) y140 := (by rw [hw, Ny140.out]; exact HP13.1); clear HP13; have n0_ := Aside0.mk (hp_); have n1_ := Aside0.mk ((by rw [hw]; exact below_set (HB.out) GB11.out : Below w0.heap.size w0 w14)); have n2_ := Aside0.mk (Kept.of_grown (S := (fun k_ => P0_ k_)) hg (by repeat (first | (with_reducible first | exact HK.out | apply Kept.alloc | apply Kept.drewN | apply Kept.drew) | exact HK.out)) (fun k_ e_ => (HO0.out.1 k_ e_))); clear HO0; clear HB; clear HK; have HO0 := n0_; have HB := n1_; have HK := n2_; clear n0_ n1_ n2_; clear hg hw hp_))
      go_ret
      exact ⟨_, by first | rfl | (simp [errW_none, errW_some] <;> rfl) | (simp only [← hji7]; first | rfl | (simp [errW_none, errW_some] <;> rfl)) | (simp [*, errW_none, errW_some] <;> rfl), by (with_reducible repeat (first | apply Kd.R_alloc | apply Kd.R_drewN | apply Kd.R_drew)); exact HO0.out, by repeat (first | (with_reducible first | exact HB.out | apply below_alloc | apply pw_below_drewN | apply below_drew1) | exact HB.out), by repeat (first | (with_reducible first | exact HK.out | apply Kept.alloc | apply Kept.drewN | apply Kept.drew) | exact HK.out)⟩
     ·rw [if_neg c10] at H
      have c10b0 : (((rd_T23 l0 (ji7)).f2) == a2) = false := beq_eq_false_iff_ne.mpr c10
      have c10b1 : (((rd_T23 l0 (ji7)).f2) != a2) = true := bne_iff_ne.mpr c10
      replace H := Option.bind_eq_some_iff.mp H
      obtain ⟨t141, A150, H⟩ := H
      replace H : (if l0.length < 5864062014805 then (some (l0 ++ [(⟨t141, a1, a2⟩ : S23)])) else (none)) = some r := H
      have A15 := Aside0.mk A150
      clear A150
      by_cases c16 : l0.length < 5864062014805
      ·rw [if_pos c16] at H
       have LMc16 := Aside0.mk c16
       clear c16
       obtain ⟨y142, hy142⟩ : ∃ y_ : List (S23), y_ = (l0 ++ [(⟨t141, a1, a2⟩ : S23)]) := ⟨_, rfl⟩
       replace H : (some y142) = some r := by first | (rw [hy142]; with_reducible exact H) | (have H2_ := (Option.bind_some _ _).symm.trans H; rw [hy142]; with_reducible exact H2_) | (have H2_ := (Option.bind_some _ _).symm.trans H; with_reducible exact H2_) | with_reducible exact H | (rw [hy142]; exact H) | exact H
       have Ny142 := Aside0.mk hy142
       clear hy142
       obtain rfl := Option.some.inj H
       obtain ⟨Ao17, co17, eo17⟩ := Kd.R_slice HO0.out
       subst eo17
       have p138 : 0 ≤ ((ji7) : Int) := of_decide_eq_true (by first | (with_reducible assumption) | assumption)
       have q138 : (ji7) < (l0.length : Int) := of_decide_eq_true (by first | (with_reducible assumption) | assumption)
       obtain ⟨ad138, e138, hx138_0, hx138_1, hx138_2⟩ := at_T23 (Kd.R_reads' HO0.out).2.2 (ji7) p138 q138
       cases e138
       replace p138 := eq_true p138
       replace q138 := eq_true q138
       go_enter Tryz.func62, Tryz.ntmps62
       go_wp2_with (first | ((with_reducible refine gate_callee (f := 63) rfl ?_); refine gl_ (some 39) rfl rfl Tryz.func63 (by kernel_rfl) rfl #[.slice (some ad138) l0.length co17] rfl ?_; (with_reducible refine (region_end.calls _ _ l0 t141 _ ?side1 ?side2 A15.out).mono ?_); (case side1 => repeat (first | exact (Kd.R_reads' HO0.out).2.2 | (with_reducible refine Kd.C_alloc ?_ _) | (with_reducible refine Kd.C_drewN ?_ _) | (with_reducible refine Kd.C_drew ?_))); (case side2 => exact (Kd.R_reads' HO0.out).2.1); rintro e w18 ⟨rfl, hb⟩; refine ⟨_, rfl, ?_⟩; have n0_ := Aside0.mk (Kd.R_below (by (with_reducible repeat (first | apply Kd.R_alloc | apply Kd.R_drewN | apply Kd.R_drew)); exact HO0.out) hb); have n1_ := Aside0.mk (Kept.below (S := (fun k_ => P0_ k_)) (by repeat (first | (with_reducible first | exact HK.out | apply Kept.alloc | apply Kept.drewN | apply Kept.drew) | exact HK.out)) hb); have n2_ := bs_ HB hb; clear HO0; clear HK; clear HB; have HO0 := n0_; have HK := n1_; have HB := n2_; clear n0_ n1_ n2_; (try clear hb)) | ((with_reducible refine gate_builtin (b := .append) (xs := #[.tmp 37, .tmp 43]) rfl ?_); at_builtin; refine Kd.R_append k23 (w0 := w0) w0.heap.size rfl (.tmp 37) (.tmp 43) 24 23 (.agg #[(.int .i64 0), (.int .i64 0), (.int .u8 0)]) 24 rfl Tryz.underlying24 info23 rfl (by decide) (by omega) (.slice (some ad138) l0.length co17) l0 (⟨t141, a1, a2⟩ : S23) [.int .i64 t141, .int .i64 a1, .int .u8 a2] (fun k_ => (P0_ k_ ∨ w.heap.size ≤ k_)) (fun _ => False) rfl rfl ?aP (fun _ hk => hk.elim) ?aF ?aO ?aB ?aS ?aL ?_; (case aP => exact k23_mkM _ _ _ (⟨t141, a1, a2⟩ : S23)); (case aB => exact (bh_ HB)); (case aF => exact (fun k_ hk => (.inr (Nat.le_trans (by first | exact HK.out.1 | exact (show Kept w _ (fun k_ => P0_ k_) from by repeat (first | (with_reducible first | exact HK.out | apply Kept.alloc | apply Kept.drewN | apply Kept.drew) | exact HK.out)).1) hk)))); (case aO => exact (by (with_reducible repeat (first | apply Kd.R_alloc | apply Kd.R_drewN | apply Kd.R_drew)); exact HO0.out)); (case aS => exact (below_size (bh_ HB))); (case aL => have := LMc16.out; omega); intro v143 w19 ho hb hg hat; rw [← Ny142.out] at ho; have HO144 := Aside0.mk (ho); replace HB := Aside0.mk (hb); replace HK := Aside0.mk (Kept.of_grown (S := (fun k_ => P0_ k_)) hg (by repeat (first | (with_reducible first | exact HK.out | apply Kept.alloc | apply Kept.drewN | apply Kept.drew) | exact HK.out)) (fun k_ e_ => (HO0.out.1 k_ e_))); clear HO0; clear ho hb hg hat))
       go_ret
       exact ⟨_, by first | rfl | (simp [errW_none, errW_some] <;> rfl) | (simp only [← hji7]; first | rfl | (simp [errW_none, errW_some] <;> rfl)) | (simp [*, errW_none, errW_some] <;> rfl), by (with_reducible repeat (first | apply Kd.R_alloc | apply Kd.R_drewN | apply Kd.R_drew)); exact HO144.out, by repeat (first | (with_reducible first | exact HB.out | apply below_alloc | apply pw_below_drewN | apply below_drew1) | exact HB.out), by repeat (first | (with_reducible first | exact HK.out | apply Kept.alloc | apply Kept.drewN | apply Kept.drew) | exact HK.out)⟩
      ·rw [if_neg c16] at H
       exact absurd H (by simp)
    ·rw [if_neg c9] at H
     exact absurd H (by simp)
   ·rw [if_neg c8] at H
    exact absurd H (by simp)
  ·rw [if_neg c6] at H
   have c6b0 : decide (0 ≤ (wrap64 ((l0.length : Int) - 1))) = false := decide_eq_false c6
   clear c6
   replace H := Option.bind_eq_some_iff.mp H
   obtain ⟨t145, A200, H⟩ := H
   replace H : (if l0.length < 5864062014805 then (some (l0 ++ [(⟨t145, a1, a2⟩ : S23)])) else (none)) = some r := H
   have A20 := Aside0.mk A200
   clear A200
   by_cases c21 : l0.length < 5864062014805
   ·rw [if_pos c21] at H
    have LMc21 := Aside0.mk c21
    clear c21
    obtain ⟨y146, hy146⟩ : ∃ y_ : List (S23), y_ = (l0 ++ [(⟨t145, a1, a2⟩ : S23)]) := ⟨_, rfl⟩
    replace H : (some y146) = some r := by first | (rw [hy146]; with_reducible exact H) | (have H2_ := (Option.bind_some _ _).symm.trans H; rw [hy146]; with_reducible exact H2_) | (have H2_ := (Option.bind_some _ _).symm.trans H; with_reducible exact H2_) | with_reducible exact H | (rw [hy146]; exact H) | exact H
    have Ny146 := Aside0.mk hy146
    clear hy146
    obtain rfl := Option.some.inj H
    obtain ⟨Ao22, co22, eo22⟩ := Kd.R_slice HO0.out
    subst eo22
    go_enter Tryz.func62, Tryz.ntmps62
    go_wp2_with (first | ((with_reducible refine gate_callee (f := 63) rfl ?_); refine gl_ (some 39) rfl rfl Tryz.func63 (by kernel_rfl) rfl #[.slice Ao22 l0.length co22] rfl ?_; (with_reducible refine (region_end.calls _ _ l0 t145 _ ?side1 ?side2 A20.out).mono ?_); (case side1 => repeat (first | exact (Kd.R_reads' HO0.out).2.2 | (with_reducible refine Kd.C_alloc ?_ _) | (with_reducible refine Kd.C_drewN ?_ _) | (with_reducible refine Kd.C_drew ?_))); (case side2 => exact (Kd.R_reads' HO0.out).2.1); rintro e w23 ⟨rfl, hb⟩; refine ⟨_, rfl, ?_⟩; have n0_ := Aside0.mk (Kd.R_below (by (with_reducible repeat (first | apply Kd.R_alloc | apply Kd.R_drewN | apply Kd.R_drew)); exact HO0.out) hb); have n1_ := Aside0.mk (Kept.below (S := (fun k_ => P0_ k_)) (by repeat (first | (with_reducible first | exact HK.out | apply Kept.alloc | apply Kept.drewN | apply Kept.drew) | exact HK.out)) hb); have n2_ := bs_ HB hb; clear HO0; clear HK; clear HB; have HO0 := n0_; have HK := n1_; have HB := n2_; clear n0_ n1_ n2_; (try clear hb)) | ((with_reducible refine gate_builtin (b := .append) (xs := #[.tmp 37, .tmp 43]) rfl ?_); at_builtin; refine Kd.R_append k23 (w0 := w0) w0.heap.size rfl (.tmp 37) (.tmp 43) 24 23 (.agg #[(.int .i64 0), (.int .i64 0), (.int .u8 0)]) 24 rfl Tryz.underlying24 info23 rfl (by decide) (by omega) (.slice Ao22 l0.length co22) l0 (⟨t145, a1, a2⟩ : S23) [.int .i64 t145, .int .i64 a1, .int .u8 a2] (fun k_ => (P0_ k_ ∨ w.heap.size ≤ k_)) (fun _ => False) rfl rfl ?aP (fun _ hk => hk.elim) ?aF ?aO ?aB ?aS ?aL ?_; (case aP => exact k23_mkM _ _ _ (⟨t145, a1, a2⟩ : S23)); (case aB => exact (bh_ HB)); (case aF => exact (fun k_ hk => (.inr (Nat.le_trans (by first | exact HK.out.1 | exact (show Kept w _ (fun k_ => P0_ k_) from by repeat (first | (with_reducible first | exact HK.out | apply Kept.alloc | apply Kept.drewN | apply Kept.drew) | exact HK.out)).1) hk)))); (case aO => exact (by (with_reducible repeat (first | apply Kd.R_alloc | apply Kd.R_drewN | apply Kd.R_drew)); exact HO0.out)); (case aS => exact (below_size (bh_ HB))); (case aL => have := LMc21.out; omega); intro v147 w24 ho hb hg hat; rw [← Ny146.out] at ho; have HO148 := Aside0.mk (ho); replace HB := Aside0.mk (hb); replace HK := Aside0.mk (Kept.of_grown (S := (fun k_ => P0_ k_)) hg (by repeat (first | (with_reducible first | exact HK.out | apply Kept.alloc | apply Kept.drewN | apply Kept.drew) | exact HK.out)) (fun k_ e_ => (HO0.out.1 k_ e_))); clear HO0; clear ho hb hg hat))
    go_ret
    exact ⟨_, by first | rfl | (simp [errW_none, errW_some] <;> rfl) | (simp [*, errW_none, errW_some] <;> rfl), by (with_reducible repeat (first | apply Kd.R_alloc | apply Kd.R_drewN | apply Kd.R_drew)); exact HO148.out, by repeat (first | (with_reducible first | exact HB.out | apply below_alloc | apply pw_below_drewN | apply below_drew1) | exact HB.out), by repeat (first | (with_reducible first | exact HK.out | apply Kept.alloc | apply Kept.drewN | apply Kept.drew) | exact HK.out)⟩
   ·rw [if_neg c21] at H
    exact absurd H (by simp)

end Go.Proofs.YtlcablcpcbmgeaaGreatDoor.P
