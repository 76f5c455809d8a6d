/- Laid by a program of this session's own (wip/wprint.py, over the kit's print.py): functions of the given program as plain Lean functions, and that the program's calls come to their answers. -/
import Derived.Test.YtlcablcpcbmgeaaGreatDoorPx0
import Derived.Test.YtlcablcpcbmgeaaGreatDoorPx42
import Derived.Test.YtlcablcpcbmgeaaGreatDoorPx6
import Derived.Test.YtlcablcpcbmgeaaGreatDoorPx21
import Derived.Test.YtlcablcpcbmgeaaGreatDoorPx22
import Derived.Test.YtlcablcpcbmgeaaGreatDoorPx23
import Derived.Test.YtlcablcpcbmgeaaGreatDoorPx41
import Derived.Test.YtlcablcpcbmgeaaGreatDoorWThree
namespace Go.Proofs.YtlcablcpcbmgeaaGreatDoor.P
open Go.RowKit Go.Proofs.YtlcablcpcbmgeaaGreatDoorW.PrintWords Go.Proofs.YtlcablcpcbmgeaaGreatDoorW.PrintLast Go.Proofs.YtlcablcpcbmgeaaGreatDoorW.PrintMore
attribute [local go_sem] max2_int min2_int max_two min_two max_three min_three max_four min_four   -- for this text's walks alone
set_option linter.unusedVariables false
set_option linter.unusedSimpArgs false

set_option maxHeartbeats 8000000 in
set_option maxRecDepth 100000 in
theorem salvorlaw17_MapParts.calls (k : Nat) (a0 : Int) (A1 : Option Addr) (c1 : Nat) (l1 : List (S75)) (a2 : Int) (a3 : Int) (r : Bool) (w : World) (hr1 : Kd.C k75 w A1 l1.length l1) (hc1 : l1.length ≤ c1) (h : salvorlaw17_MapParts.f k a0 l1 a2 a3 = some r) (htab : TabAt w) (hrt : r = true) :
  Calls Tryz.prog 9 #[.int .u8 a0, .slice A1 l1.length c1, .int .u8 a2, .int .u8 a3] w fun e w' => e = .returned (.bool r) ∧ Below w.heap.size w w' := by
 have HT := Aside0.mk hrt
 clear hrt
 have HTAB := Aside0.mk htab
 clear htab
 have hu26 := Tryz.underlying26
 have hu23 := Tryz.underlying23
 have HR1 := Aside0.mk hr1
 have HC1 := Aside0.mk hc1
 clear hr1 hc1
 have HB := Aside0.mk (Below.refl w.heap.size w)
 have H : (if (l1.length : Int) > 20 then (salvorlaw17_MapParts.j0 k a0 l1 a2 a3 true) else (salvorlaw17_MapParts.j0 k a0 l1 a2 a3 (a0 == 0))) = some r := h
 clear h
 have HC5 := Aside0.mk H
 clear H
 go_enter Tryz.func9, Tryz.ntmps9
 go_upto_region 1 with (fail)
 go_cut [27] (fun v27 wc => ∃ (kq : Nat) (x27_4 : Bool), v27 = .bool x27_4 ∧ Aside0 (salvorlaw17_MapParts.j0 kq a0 l1 a2 a3 x27_4 = some r) ∧ Aside0 (kq ≤ k) ∧ Aside0 (Below w.heap.size w wc))
 case first =>
  have H := HC5.out
  clear HC5
  by_cases c6 : (l1.length : Int) > 20
  ·rw [if_pos c6] at H
   have c6b0 : decide (20 < (l1.length : Int)) = true := decide_eq_true c6
   have c6b1 : decide (20 < l1.length) = true := decide_eq_true (by omega)
   clear c6
   (first | rw [c6b0] | (simp only [i64_w, i32_w]; rw [c6b0]) | skip)
   have H' := Aside0.mk H
   clear H
   go_wp2
   go_meet
   case rel => exact ⟨_, (true), (by first | rfl | (simp; done) | (simp [*]; done)), H', ⟨by first | omega | exact Nat.le_refl _⟩, ⟨bh_ HB⟩⟩
  rw [if_neg c6] at H
  have c6b0 : decide (20 < (l1.length : Int)) = false := decide_eq_false c6
  have c6b1 : decide (20 < l1.length) = false := decide_eq_false (by omega)
  clear c6
  (first | rw [c6b0] | (simp only [i64_w, i32_w]; rw [c6b0]) | skip)
  have H' := Aside0.mk H
  clear H
  go_wp2
  go_meet
  case rel => exact ⟨_, ((a0 == 0)), (by first | rfl | (simp; done) | (simp [*]; done)), H', ⟨by first | omega | exact Nat.le_refl _⟩, ⟨bh_ HB⟩⟩
 case rest =>
  clear HC5
  try clear c1
  try clear p2
  try clear c6
  try clear c6b0
  try clear c6b1
  obtain ⟨kq, x27_4, rfl, HA, HJ4, HB⟩ := hcut
  cases kq with
  | zero => exact absurd HA.out (by simp [salvorlaw17_MapParts.j0])
  | succ kj4 =>
   have H := HA.out
   clear HA
   simp only [salvorlaw17_MapParts.j0] at H
   by_cases c7 : x27_4 = true
   ·subst c7
    have H1 := H; rw [if_pos rfl] at H1
    clear H
    have H := H1
    clear H1
    replace H := Option.bind_eq_some_iff.mp H
    obtain ⟨t395, A80, H⟩ := H
    have A8 := Aside0.mk A80
    clear A80
    obtain rfl := Option.some.inj H
    go_wp2_with (first | ((with_reducible refine gate_callee (f := 3) rfl ?_); refine gl_ (some 28) rfl rfl Tryz.func3 (by kernel_rfl) rfl #[] rfl ?_; (with_reducible refine (salvorlaw17_MapRuns.calls kj4  t395 _ A8.out ?tb0_).mono ?_); (case tb0_ => exact tb_ HTAB HB); rintro e w9 ⟨rfl, hb⟩; refine ⟨_, rfl, ?_⟩; replace HB := bs_ HB hb; (try clear hb)))
    go_ret
    exact ⟨by first | rfl | (simp [errW_none, errW_some] <;> rfl) | (simp [*, errW_none, errW_some] <;> rfl), bh_ HB⟩
   replace c7 := Bool.eq_false_iff.mpr c7
   subst c7
   have H1 : ((salvorlaw16_Made.f kj4 a0 l1).bind fun t396 => (if (t396.length : Int) = 0 then (some false) else (salvorlaw17_MapParts.l0 kj4 a3 (Int.tmod (wrap64 (a2)) (t396.length : Int)) (⟨#[48, 32, 43, 32, 48, 10]⟩ : ByteArray) (⟨#[48, 32, 43, 32, 48, 10]⟩ : ByteArray) 0 0 0 43 t396))) = some r := by rw [if_neg (show ¬ (false = true) by decide)] at H; exact H
   clear H
   have H := H1
   clear H1
   replace H := Option.bind_eq_some_iff.mp H
   obtain ⟨t396, A100, H⟩ := H
   have A10 := Aside0.mk A100
   clear A100
   by_cases c11 : (t396.length : Int) = 0
   ·rw [if_pos c11] at H
    have c11b0 : ((t396.length : Int) == 0) = true := beq_iff_eq.mpr c11
    have c11b1 : ((t396.length : Int) != 0) = false := bne_eq_false_iff_eq.mpr c11
    clear c11
    exact absurd ((Option.some.inj H).trans HT.out) (by simp)
   rw [if_neg c11] at H
   have c11b0 : ((t396.length : Int) == 0) = false := beq_eq_false_iff_ne.mpr c11
   have c11b1 : ((t396.length : Int) != 0) = true := bne_iff_ne.mpr c11
   have c11b2 : ¬ (t396 = []) := fun h_ => c11 (by rw [h_]; rfl)
   have H' := Aside0.mk H
   clear H
   go_wp2_with (first | ((with_reducible refine gate_callee (f := 18) rfl ?_); refine gl_ (some 31) rfl rfl Tryz.func18 (by kernel_rfl) rfl #[.int .u8 a0, .slice A1 l1.length c1] rfl ?_; (with_reducible refine (salvorlaw16_Made.calls kj4 a0 _ _ l1 t396 _ ?side1 ?side2 A10.out).mono ?_); (case side1 => exact cb_ HR1 HB); (case side2 => exact HC1.out); rintro e w12 ⟨v397, rfl, ho0, hb⟩; refine ⟨_, rfl, ?_⟩; have HO398 := Aside0.mk (Kd.R_lower ho0 (below_size (bh_ HB))); replace HB := bs_ HB hb; (try clear hb); (try clear hb2); (try clear hk); (try clear hi); (try clear ho0); obtain ⟨Ao13, co13, eo13⟩ := Kd.R_slice HO398.out; subst eo13) | ((with_reducible refine gate_dst (N := 9) rfl ?_); refine box_e 9 #[.int .i64 0, .int .i64 0, .int .u8 0, .slice none 0 0] 26 ?_; intro gb399 hg w14 hbox hb; have n0_ := Aside0.mk (Kd.R_below (ky_ HO398) hb); have n1_ := bs_ HB hb; have n2_ := Aside0.mk hbox; have n3_ := bg_ HB hg; have n4_ := bg_ HB hg; clear HO398; clear HB; have HO398 := n0_; have HB := n1_; have BK399 := n2_; have GW399 := n3_; have GE399 := n4_; clear n0_ n1_ n2_ n3_ n4_; clear hb hbox hg; obtain ⟨hcz15_0, hcz15_1, hcz15_2, hcz15_3, hfz15_0, hfz15_1, hfz15_2, hfz15_3⟩ := c4_ BK399))
   go_loopg [12, 13, 14] kj4 (fun kq v12 v13 v14 w' => ∃ (x12_2 : ByteArray) (x13_2 : ByteArray) (x14_2 : Int), v12 = .string x12_2 ∧ v13 = .string x13_2 ∧ v14 = .int .i64 x14_2 ∧ Aside0 (salvorlaw17_MapParts.l0 kq a3 (Int.tmod (wrap64 (a2)) (t396.length : Int)) x12_2 x13_2 x14_2 0 0 43 t396 = some r) ∧ Aside0 (kq ≤ kj4) ∧ Aside0 (Kd.R k23 23 w' w.heap.size (fun _ => True) (.slice Ao13 t396.length co13) t396) ∧ Aside0 (w'.heap[gb399]? = some (.cells #[.int .i64 0, .int .i64 0, .int .u8 43, (.slice Ao13 t396.length co13)] 26 (0, 0))) ∧ Aside0 (Below w.heap.size w w'))
   case atStart => exact ⟨((⟨#[48, 32, 43, 32, 48, 10]⟩ : ByteArray)), ((⟨#[48, 32, 43, 32, 48, 10]⟩ : ByteArray)), (0), (by first | rfl | (simp; done) | (simp [*]; done)), (by first | rfl | (simp; done) | (simp [*]; done)), (by first | rfl | (simp; done) | (simp [*]; done)), H', ⟨Nat.le_refl _⟩, ⟨by (with_reducible repeat (first | apply Kd.R_alloc | apply Kd.R_drewN | apply Kd.R_drew)); exact Kd.R_mono (Kd.R_far (p := ⟨gb399, 3, none⟩) (Kd.R_far (p := ⟨gb399, 2, none⟩) (Kd.R_far (p := ⟨gb399, 1, none⟩) (Kd.R_far (p := ⟨gb399, 0, none⟩) (Kd.R_types HO398.out BK399.out (by decide)) (fun _ hk => hk.2) (.int .i64 0)) (fun _ hk => hk.2) (.int .i64 0)) (fun _ hk => hk.2) (.int .u8 43)) (fun _ hk => hk.2) (.slice Ao13 t396.length co13)) (fun _ hk => trivial)⟩, ⟨by (with_reducible repeat (first | refine blk_drewN ?_ _ | refine blk_drew ?_ | refine blk_alloc ?_ _)); refine blk_put (cs := #[.int .i64 0, .int .i64 0, .int .u8 43, .slice none 0 0]) ?_ 3 _ rfl; (with_reducible repeat (first | refine blk_drewN ?_ _ | refine blk_drew ?_ | refine blk_alloc ?_ _)); refine blk_put (cs := #[.int .i64 0, .int .i64 0, .int .u8 0, .slice none 0 0]) ?_ 2 _ rfl; (with_reducible repeat (first | refine blk_drewN ?_ _ | refine blk_drew ?_ | refine blk_alloc ?_ _)); refine blk_put (cs := #[.int .i64 0, .int .i64 0, .int .u8 0, .slice none 0 0]) ?_ 1 _ rfl; (with_reducible repeat (first | refine blk_drewN ?_ _ | refine blk_drew ?_ | refine blk_alloc ?_ _)); refine blk_put (cs := #[.int .i64 0, .int .i64 0, .int .u8 0, .slice none 0 0]) ?_ 0 _ rfl; (with_reducible repeat (first | refine blk_drewN ?_ _ | refine blk_drew ?_ | refine blk_alloc ?_ _)); exact BK399.out⟩, ⟨bh_ HB⟩⟩
   case round =>
    clear H'
    try clear c1
    try clear p2
    try clear c3
    try clear c6
    try clear c6b0
    try clear c6b1
    try clear p6
    try clear c7
    try clear c9
    try clear c11
    try clear c11b0
    try clear c11b1
    try clear c11b2
    try clear hcz15_0 hcz15_1 hcz15_2 hcz15_3 hfz15_0 hfz15_1 hfz15_2 hfz15_3
    try clear p2
    obtain ⟨x12_2, x13_2, x14_2, rfl, rfl, rfl, HA, HK2, HO_400003, BK399, HB⟩ := hrel
    cases gk with
    | zero => exact absurd HA.out (by simp [salvorlaw17_MapParts.l0])
    | succ k2 =>
     have H := HA.out
     clear HA
     simp only [salvorlaw17_MapParts.l0] at H
     by_cases c16 : x14_2 < (t396.length : Int)
     rotate_left
     ·rw [if_neg c16] at H
      have c16b0 : decide (x14_2 < (t396.length : Int)) = false := decide_eq_false c16
      clear c16
      replace H := Option.bind_eq_some_iff.mp H
      obtain ⟨⟨t422, t423, t424, t425, t428⟩, A1140, H⟩ := H
      have A114 := Aside0.mk A1140
      clear A1140
      replace H := Option.bind_eq_some_iff.mp H
      obtain ⟨⟨t430, t431, t432, t433, t436⟩, A1150, H⟩ := H
      have A115 := Aside0.mk A1150
      clear A1150
      by_cases c116 : t428 = 0
      rotate_left
      ·rw [if_neg c116] at H
       have c116b0 : (t428 == 0) = false := beq_eq_false_iff_ne.mpr c116
       have c116b1 : (t428 != 0) = true := bne_iff_ne.mpr c116
       exact absurd ((Option.some.inj H).trans HT.out) (by simp)
      rw [if_pos c116] at H
      have c116b0 : (t428 == 0) = true := beq_iff_eq.mpr c116
      have c116b1 : (t428 != 0) = false := bne_eq_false_iff_eq.mpr c116
      clear c116
      replace H := Option.bind_eq_some_iff.mp H
      obtain ⟨t438, A1170, H⟩ := H
      have A117 := Aside0.mk A1170
      clear A1170
      by_cases c118 : t438 = true
      rotate_left
      ·replace c118 := Bool.eq_false_iff.mpr c118
       subst c118
       have H1 : (some false) = some r := by rw [if_neg (show ¬ (false = true) by decide)] at H; exact H
       clear H
       have H := H1
       clear H1
       exact absurd ((Option.some.inj H).trans HT.out) (by simp)
      subst c118
      have H1 := H; rw [if_pos rfl] at H1
      clear H
      have H := H1
      clear H1
      by_cases c119 : t436 = 6
      rotate_left
      ·rw [if_neg c119] at H
       have c119b0 : (t436 == 6) = false := beq_eq_false_iff_ne.mpr c119
       have c119b1 : (t436 != 6) = true := bne_iff_ne.mpr c119
       exact absurd ((Option.some.inj H).trans HT.out) (by simp)
      rw [if_pos c119] at H
      have c119b0 : (t436 == 6) = true := beq_iff_eq.mpr c119
      have c119b1 : (t436 != 6) = false := bne_eq_false_iff_eq.mpr c119
      clear c119
      replace H := Option.bind_eq_some_iff.mp H
      obtain ⟨t439, A1200, H⟩ := H
      have A120 := Aside0.mk A1200
      clear A1200
      obtain rfl := Option.some.inj H
      obtain ⟨hcz121_0, hcz121_1, hcz121_2, hcz121_3, hfz121_0, hfz121_1, hfz121_2, hfz121_3⟩ := c4_ BK399
      go_wp2_with (first | ((with_reducible refine gate_callee (f := 11) rfl ?_); refine gl_ (some 164) rfl rfl Tryz.func11 (by kernel_rfl) rfl #[.string x12_2] rfl ?_; (with_reducible refine (maptext_Parse.calls k2 x12_2 t422 t423 t424 t425 t428 _ A114.out ?tb92_).mono ?_); (case tb92_ => exact tb_ HTAB HB); rintro e w122 ⟨v426, rfl, ho0, hb⟩; refine ⟨_, rfl, ?_⟩; have n0_ := Aside0.mk (Kd.R_elder' (ky_ HO_400003) (Kd.R_base ho0) hb); have n1_ := Aside0.mk (Kd.R_lower (Kd.R_new' ho0 (Kd.R_lt (ky_ HO_400003))) (below_size (bh_ HB))); have n2_ := bb_ BK399 hb; have n3_ := bs_ HB hb; clear HO_400003; clear BK399; clear HB; have HO_400003 := n0_; have HO427 := n1_; have BK399 := n2_; have HB := n3_; clear n0_ n1_ n2_ n3_; (try clear hb); (try clear hb2); (try clear hk); (try clear hi); (try clear ho0)) | ((with_reducible refine gate_dst (N := 17) rfl ?_); refine box_e 17 #[.int .i64 0, .int .i64 0, .int .u8 0, .slice none 0 0] 26 ?_; intro gb429 hg w123 hbox hb; have n0_ := Aside0.mk (Kd.R_below (ky_ HO_400003) hb); have n1_ := Aside0.mk (Kd.R_below (ky_ HO427) hb); have n2_ := bb_ BK399 hb; have n3_ := bs_ HB hb; have n4_ := Aside0.mk hbox; have n5_ := bg_ HB hg; have n6_ := bg_ HB hg; have n7_ := bn_ BK399 hg; have n8_ := bm_ BK399 hg; clear HO_400003; clear HO427; clear BK399; clear HB; have HO_400003 := n0_; have HO427 := n1_; have BK399 := n2_; have HB := n3_; have BK429 := n4_; have GW429 := n5_; have GE429 := n6_; have NB399_429 := n7_; have NB429_399 := n8_; clear n0_ n1_ n2_ n3_ n4_ n5_ n6_ n7_ n8_; clear hb hbox hg; have hnb124 := NB429_399.out; have hnc124 := NB399_429.out; obtain ⟨hcz125_0, hcz125_1, hcz125_2, hcz125_3, hfz125_0, hfz125_1, hfz125_2, hfz125_3⟩ := c4_ BK429; obtain ⟨Ao126, co126, eo126⟩ := Kd.R_slice HO427.out; subst eo126) | ((with_reducible refine gate_callee (f := 11) rfl ?_); refine gl_ (some 169) rfl rfl Tryz.func11 (by kernel_rfl) rfl #[.string x13_2] rfl ?_; (with_reducible refine (maptext_Parse.calls k2 x13_2 t430 t431 t432 t433 t436 _ A115.out ?tb94_).mono ?_); (case tb94_ => exact tb_ HTAB HB); rintro e w127 ⟨v434, rfl, ho0, hb⟩; refine ⟨_, rfl, ?_⟩; have n0_ := Aside0.mk (Kd.R_elder' (by (with_reducible repeat (first | apply Kd.R_alloc | apply Kd.R_drewN | apply Kd.R_drew)); exact (Kd.R_mono (Kd.R_far (p := ⟨gb429, 3, none⟩) (Kd.R_far (p := ⟨gb429, 2, none⟩) (Kd.R_far (p := ⟨gb429, 1, none⟩) (Kd.R_far (p := ⟨gb429, 0, none⟩) (Kd.R_types HO_400003.out BK429.out (by decide)) (fun _ hk => hk.2) (.int .i64 t422)) (fun _ hk => hk.2) (.int .i64 t423)) (fun _ hk => hk.2) (.int .u8 t424)) (fun _ hk => hk.2) (.slice Ao126 t425.length co126)) (fun _ h_ => h_.1))) (Kd.R_base ho0) hb); have n1_ := Aside0.mk (Kd.R_elder' (by (with_reducible repeat (first | apply Kd.R_alloc | apply Kd.R_drewN | apply Kd.R_drew)); exact (Kd.R_mono (Kd.R_far (p := ⟨gb429, 3, none⟩) (Kd.R_far (p := ⟨gb429, 2, none⟩) (Kd.R_far (p := ⟨gb429, 1, none⟩) (Kd.R_far (p := ⟨gb429, 0, none⟩) (Kd.R_types HO427.out BK429.out (by decide)) (fun _ hk => hk.2) (.int .i64 t422)) (fun _ hk => hk.2) (.int .i64 t423)) (fun _ hk => hk.2) (.int .u8 t424)) (fun _ hk => hk.2) (.slice Ao126 t425.length co126)) (fun _ h_ => h_.1))) (Kd.R_base ho0) hb); have n2_ := Aside0.mk (Kd.R_lower (Kd.R_new' (Kd.R_new' ho0 (Kd.R_lt (by (with_reducible repeat (first | apply Kd.R_alloc | apply Kd.R_drewN | apply Kd.R_drew)); exact (Kd.R_mono (Kd.R_far (p := ⟨gb429, 3, none⟩) (Kd.R_far (p := ⟨gb429, 2, none⟩) (Kd.R_far (p := ⟨gb429, 1, none⟩) (Kd.R_far (p := ⟨gb429, 0, none⟩) (Kd.R_types HO_400003.out BK429.out (by decide)) (fun _ hk => hk.2) (.int .i64 t422)) (fun _ hk => hk.2) (.int .i64 t423)) (fun _ hk => hk.2) (.int .u8 t424)) (fun _ hk => hk.2) (.slice Ao126 t425.length co126)) (fun _ h_ => h_.1))))) (Kd.R_lt (by (with_reducible repeat (first | apply Kd.R_alloc | apply Kd.R_drewN | apply Kd.R_drew)); exact (Kd.R_mono (Kd.R_far (p := ⟨gb429, 3, none⟩) (Kd.R_far (p := ⟨gb429, 2, none⟩) (Kd.R_far (p := ⟨gb429, 1, none⟩) (Kd.R_far (p := ⟨gb429, 0, none⟩) (Kd.R_types HO427.out BK429.out (by decide)) (fun _ hk => hk.2) (.int .i64 t422)) (fun _ hk => hk.2) (.int .i64 t423)) (fun _ hk => hk.2) (.int .u8 t424)) (fun _ hk => hk.2) (.slice Ao126 t425.length co126)) (fun _ h_ => h_.1))))) (below_size (bh_ HB))); have n3_ := Aside0.mk (blk_below (g := gb399) (o := .cells #[.int .i64 0, .int .i64 0, .int .u8 43, .slice Ao13 t396.length co13] 26 (0, 0)) (bp_ BK399) hb); have n4_ := Aside0.mk (blk_below (g := gb429) (o := .cells #[.int .i64 t422, .int .i64 t423, .int .u8 t424, .slice Ao126 t425.length co126] 26 (0, 0)) (bp_ BK429) hb); have n5_ := bs_ HB hb; clear HO_400003; clear HO427; clear BK399; clear BK429; clear HB; have HO_400003 := n0_; have HO427 := n1_; have HO435 := n2_; have BK399 := n3_; have BK429 := n4_; have HB := n5_; clear n0_ n1_ n2_ n3_ n4_ n5_; (try clear hb); (try clear hb2); (try clear hk); (try clear hi); (try clear ho0)) | ((with_reducible refine gate_dst (N := 19) rfl ?_); refine box_e 19 #[.int .i64 0, .int .i64 0, .int .u8 0, .slice none 0 0] 26 ?_; intro gb437 hg w128 hbox hb; have n0_ := Aside0.mk (Kd.R_below (ky_ HO_400003) hb); have n1_ := Aside0.mk (Kd.R_below (ky_ HO427) hb); have n2_ := Aside0.mk (Kd.R_below (ky_ HO435) hb); have n3_ := bb_ BK399 hb; have n4_ := bb_ BK429 hb; have n5_ := bs_ HB hb; have n6_ := Aside0.mk hbox; have n7_ := bg_ HB hg; have n8_ := bg_ HB hg; have n9_ := bn_ BK399 hg; have n10_ := bm_ BK399 hg; have n11_ := bn_ BK429 hg; have n12_ := bm_ BK429 hg; clear HO_400003; clear HO427; clear HO435; clear BK399; clear BK429; clear HB; have HO_400003 := n0_; have HO427 := n1_; have HO435 := n2_; have BK399 := n3_; have BK429 := n4_; have HB := n5_; have BK437 := n6_; have GW437 := n7_; have GE437 := n8_; have NB399_437 := n9_; have NB437_399 := n10_; have NB429_437 := n11_; have NB437_429 := n12_; clear n0_ n1_ n2_ n3_ n4_ n5_ n6_ n7_ n8_ n9_ n10_ n11_ n12_; clear hb hbox hg; have hnb129 := NB437_399.out; have hnc129 := NB399_437.out; have hnb130 := NB437_429.out; have hnc130 := NB429_437.out; obtain ⟨hcz131_0, hcz131_1, hcz131_2, hcz131_3, hfz131_0, hfz131_1, hfz131_2, hfz131_3⟩ := c4_ BK437; obtain ⟨Ao132, co132, eo132⟩ := Kd.R_slice HO435.out; subst eo132; obtain ⟨hcz133_0, hcz133_1, hcz133_2, hcz133_3, hfz133_0, hfz133_1, hfz133_2, hfz133_3⟩ := c4_ BK429; obtain ⟨hcz134_0, hcz134_1, hcz134_2, hcz134_3, hfz134_0, hfz134_1, hfz134_2, hfz134_3⟩ := c4_ BK399) | (go_at_call 12; (with_reducible refine (salvorref16_SameMap.calls k2 t422 t423 t424 _ _ t425 0 0 43 _ _ t396 true _ ?side1 ?side2 ?side3 ?side4 A117.out).mono ?_); (case side1 => refine (Kd.R_reads' (e := 23) (base := w.heap.size) (ok := fun k_ => ((True ∧ some k_ ≠ (.slice Ao13 t396.length co13 : Value).ownBlock) ∧ some k_ ≠ (.slice Ao132 t433.length co132 : Value).ownBlock)) (n := t425.length) (c := co126) ?_).2.2; exact (by (with_reducible repeat (first | apply Kd.R_alloc | apply Kd.R_drewN | apply Kd.R_drew)); exact (Kd.R_mono (Kd.R_far (p := ⟨gb437, 3, none⟩) (Kd.R_far (p := ⟨gb437, 2, none⟩) (Kd.R_far (p := ⟨gb437, 1, none⟩) (Kd.R_far (p := ⟨gb437, 0, none⟩) (Kd.R_types HO427.out BK437.out (by decide)) (fun _ hk => hk.2) (.int .i64 t430)) (fun _ hk => hk.2) (.int .i64 t431)) (fun _ hk => hk.2) (.int .u8 t432)) (fun _ hk => hk.2) (.slice Ao132 t433.length co132)) (fun _ h_ => h_.1)))); (case side2 => exact (Kd.R_reads' HO427.out).2.1); (case side3 => refine (Kd.R_reads' (e := 23) (base := w.heap.size) (ok := fun k_ => ((True ∧ some k_ ≠ (.slice Ao126 t425.length co126 : Value).ownBlock) ∧ some k_ ≠ (.slice Ao132 t433.length co132 : Value).ownBlock)) (n := t396.length) (c := co13) ?_).2.2; exact (by (with_reducible repeat (first | apply Kd.R_alloc | apply Kd.R_drewN | apply Kd.R_drew)); exact (Kd.R_mono (Kd.R_far (p := ⟨gb437, 3, none⟩) (Kd.R_far (p := ⟨gb437, 2, none⟩) (Kd.R_far (p := ⟨gb437, 1, none⟩) (Kd.R_far (p := ⟨gb437, 0, none⟩) (Kd.R_types HO_400003.out BK437.out (by decide)) (fun _ hk => hk.2) (.int .i64 t430)) (fun _ hk => hk.2) (.int .i64 t431)) (fun _ hk => hk.2) (.int .u8 t432)) (fun _ hk => hk.2) (.slice Ao132 t433.length co132)) (fun _ h_ => h_.1)))); (case side4 => exact (Kd.R_reads' HO_400003.out).2.1); rintro e w135 ⟨rfl, hb⟩; have n0_ := Aside0.mk (Kd.R_below (by (with_reducible repeat (first | apply Kd.R_alloc | apply Kd.R_drewN | apply Kd.R_drew)); exact (Kd.R_mono (Kd.R_far (p := ⟨gb437, 3, none⟩) (Kd.R_far (p := ⟨gb437, 2, none⟩) (Kd.R_far (p := ⟨gb437, 1, none⟩) (Kd.R_far (p := ⟨gb437, 0, none⟩) (Kd.R_types HO_400003.out BK437.out (by decide)) (fun _ hk => hk.2) (.int .i64 t430)) (fun _ hk => hk.2) (.int .i64 t431)) (fun _ hk => hk.2) (.int .u8 t432)) (fun _ hk => hk.2) (.slice Ao132 t433.length co132)) (fun _ h_ => h_.1))) hb); have n1_ := Aside0.mk (Kd.R_below (by (with_reducible repeat (first | apply Kd.R_alloc | apply Kd.R_drewN | apply Kd.R_drew)); exact (Kd.R_mono (Kd.R_far (p := ⟨gb437, 3, none⟩) (Kd.R_far (p := ⟨gb437, 2, none⟩) (Kd.R_far (p := ⟨gb437, 1, none⟩) (Kd.R_far (p := ⟨gb437, 0, none⟩) (Kd.R_types HO427.out BK437.out (by decide)) (fun _ hk => hk.2) (.int .i64 t430)) (fun _ hk => hk.2) (.int .i64 t431)) (fun _ hk => hk.2) (.int .u8 t432)) (fun _ hk => hk.2) (.slice Ao132 t433.length co132)) (fun _ h_ => h_.1))) hb); have n2_ := Aside0.mk (Kd.R_below (by (with_reducible repeat (first | apply Kd.R_alloc | apply Kd.R_drewN | apply Kd.R_drew)); exact (Kd.R_mono (Kd.R_far (p := ⟨gb437, 3, none⟩) (Kd.R_far (p := ⟨gb437, 2, none⟩) (Kd.R_far (p := ⟨gb437, 1, none⟩) (Kd.R_far (p := ⟨gb437, 0, none⟩) (Kd.R_types HO435.out BK437.out (by decide)) (fun _ hk => hk.2) (.int .i64 t430)) (fun _ hk => hk.2) (.int .i64 t431)) (fun _ hk => hk.2) (.int .u8 t432)) (fun _ hk => hk.2) (.slice Ao132 t433.length co132)) (fun _ h_ => h_.1))) hb); have n3_ := Aside0.mk (blk_below (g := gb399) (o := .cells #[.int .i64 0, .int .i64 0, .int .u8 43, .slice Ao13 t396.length co13] 26 (0, 0)) (bp_ BK399) hb); have n4_ := Aside0.mk (blk_below (g := gb429) (o := .cells #[.int .i64 t422, .int .i64 t423, .int .u8 t424, .slice Ao126 t425.length co126] 26 (0, 0)) (bp_ BK429) hb); have n5_ := Aside0.mk (blk_below (g := gb437) (o := .cells #[.int .i64 t430, .int .i64 t431, .int .u8 t432, .slice Ao132 t433.length co132] 26 (0, 0)) (bp_ BK437) hb); have n6_ := bs_ HB hb; clear HO_400003; clear HO427; clear HO435; clear BK399; clear BK429; clear BK437; clear HB; have HO_400003 := n0_; have HO427 := n1_; have HO435 := n2_; have BK399 := n3_; have BK429 := n4_; have BK437 := n5_; have HB := n6_; clear n0_ n1_ n2_ n3_ n4_ n5_ n6_; (try clear hb)) | (go_at_call 3; (with_reducible refine (salvorlaw17_MapRuns.calls k2  t439 _ A120.out ?tb96_).mono ?_); (case tb96_ => exact tb_ HTAB HB); rintro e w136 ⟨rfl, hb⟩; have n0_ := Aside0.mk (Kd.R_below (ky_ HO_400003) hb); have n1_ := Aside0.mk (Kd.R_below (ky_ HO427) hb); have n2_ := Aside0.mk (Kd.R_below (ky_ HO435) hb); have n3_ := bb_ BK399 hb; have n4_ := bb_ BK429 hb; have n5_ := bb_ BK437 hb; have n6_ := bs_ HB hb; clear HO_400003; clear HO427; clear HO435; clear BK399; clear BK429; clear BK437; clear HB; have HO_400003 := n0_; have HO427 := n1_; have HO435 := n2_; have BK399 := n3_; have BK429 := n4_; have BK437 := n5_; have HB := n6_; clear n0_ n1_ n2_ n3_ n4_ n5_ n6_; (try clear hb)))
      go_ret
      exact ⟨by first | rfl | (simp [errW_none, errW_some] <;> rfl) | (simp [*, errW_none, errW_some] <;> rfl), bh_ HB⟩
     rw [if_pos c16] at H
     have c16b0 : decide (x14_2 < (t396.length : Int)) = true := decide_eq_true c16
     clear c16
     by_cases c17 : 0 ≤ x14_2
     rotate_left
     ·rw [if_neg c17] at H
      exact absurd H (by simp)
     rw [if_pos c17] at H
     have c17b0 : decide (0 ≤ x14_2) = true := decide_eq_true c17
     clear c17
     replace H := Option.bind_eq_some_iff.mp H
     obtain ⟨t402, A180, H⟩ := H
     have A18 := Aside0.mk A180
     clear A180
     by_cases c19 : t402.size + 1 ≤ 9223372036854775807
     rotate_left
     ·rw [if_neg c19] at H
      exact absurd H (by simp)
     rw [if_pos c19] at H
     have c19b0 := eq_true c19
     have c19b1 : decide (t402.size + 1 ≤ 9223372036854775807) = true := decide_eq_true c19
     try have c19b2 : (9223372036854775807 < t402.size + 1) = False := eq_false (Nat.not_lt.2 c19)
     replace H := Option.bind_eq_some_iff.mp H
     obtain ⟨t403, A200, H⟩ := H
     have A20 := Aside0.mk A200
     clear A200
     by_cases c21 : (t402 ++ (⟨#[32]⟩ : ByteArray)).size + t403.size ≤ 9223372036854775807
     rotate_left
     ·rw [if_neg c21] at H
      exact absurd H (by simp)
     rw [if_pos c21] at H
     have c21b0 := eq_true c21
     have c21b1 : decide ((t402 ++ (⟨#[32]⟩ : ByteArray)).size + t403.size ≤ 9223372036854775807) = true := decide_eq_true c21
     try have c21b2 : (9223372036854775807 < (t402 ++ (⟨#[32]⟩ : ByteArray)).size + t403.size) = False := eq_false (Nat.not_lt.2 c21)
     try have c21b3 : (9223372036854775807 < t402.size + 1 + t403.size) = False := eq_false (Nat.not_lt.2 (by have h_ := c21; simp only [ByteArray.size_append] at h_; exact h_))
     by_cases c22 : ((t402 ++ (⟨#[32]⟩ : ByteArray)) ++ t403).size + 1 ≤ 9223372036854775807
     rotate_left
     ·rw [if_neg c22] at H
      exact absurd H (by simp)
     rw [if_pos c22] at H
     have c22b0 := eq_true c22
     have c22b1 : decide (((t402 ++ (⟨#[32]⟩ : ByteArray)) ++ t403).size + 1 ≤ 9223372036854775807) = true := decide_eq_true c22
     try have c22b2 : (9223372036854775807 < ((t402 ++ (⟨#[32]⟩ : ByteArray)) ++ t403).size + 1) = False := eq_false (Nat.not_lt.2 c22)
     try have c22b3 : (9223372036854775807 < t402.size + 1 + t403.size + 1) = False := eq_false (Nat.not_lt.2 (by have h_ := c22; simp only [ByteArray.size_append] at h_; exact h_))
     obtain ⟨y404, hy404⟩ : ∃ y_ : List Int, y_ = (([(rd_T23 t396 x14_2).f2] : List Int)) := ⟨_, rfl⟩
     replace H : (if (((t402 ++ (⟨#[32]⟩ : ByteArray)) ++ t403) ++ (⟨#[32]⟩ : ByteArray)).size + (strOfNums y404).size ≤ 9223372036854775807 then (if ((((t402 ++ (⟨#[32]⟩ : ByteArray)) ++ t403) ++ (⟨#[32]⟩ : ByteArray)) ++ (strOfNums y404)).size + 1 ≤ 9223372036854775807 then (if x14_2 = (Int.tmod (wrap64 (a2)) (t396.length : Int)) then (if ((rd_T23 t396 x14_2).f1) > 1 then ((num_Dec.f ((rd_T23 t396 x14_2).f0)).bind fun t407 => (if t407.size + 3 ≤ 9223372036854775807 then ((some (([(rd_T23 t396 x14_2).f2] : List Int) : List Int)).bind fun y408 => (if (t407 ++ (⟨#[32, 49, 32]⟩ : ByteArray)).size + (strOfNums y408).size ≤ 9223372036854775807 then (if ((t407 ++ (⟨#[32, 49, 32]⟩ : ByteArray)) ++ (strOfNums y408)).size + 1 ≤ 9223372036854775807 then ((num_Dec.f (wrap64 (((rd_T23 t396 x14_2).f0) + 1))).bind fun t411 => (if (((t407 ++ (⟨#[32, 49, 32]⟩ : ByteArray)) ++ (strOfNums y408)) ++ (⟨#[10]⟩ : ByteArray)).size + t411.size ≤ 9223372036854775807 then (if ((((t407 ++ (⟨#[32, 49, 32]⟩ : ByteArray)) ++ (strOfNums y408)) ++ (⟨#[10]⟩ : ByteArray)) ++ t411).size + 1 ≤ 9223372036854775807 then ((num_Dec.f (wrap64 (((rd_T23 t396 x14_2).f1) - 1))).bind fun t412 => (if (((((t407 ++ (⟨#[32, 49, 32]⟩ : ByteArray)) ++ (strOfNums y408)) ++ (⟨#[10]⟩ : ByteArray)) ++ t411) ++ (⟨#[32]⟩ : ByteArray)).size + t412.size ≤ 9223372036854775807 then (if ((((((t407 ++ (⟨#[32, 49, 32]⟩ : ByteArray)) ++ (strOfNums y408)) ++ (⟨#[10]⟩ : ByteArray)) ++ t411) ++ (⟨#[32]⟩ : ByteArray)) ++ t412).size + 1 ≤ 9223372036854775807 then ((some (([(rd_T23 t396 x14_2).f2] : List Int) : List Int)).bind fun y413 => (if (((((((t407 ++ (⟨#[32, 49, 32]⟩ : ByteArray)) ++ (strOfNums y408)) ++ (⟨#[10]⟩ : ByteArray)) ++ t411) ++ (⟨#[32]⟩ : ByteArray)) ++ t412) ++ (⟨#[32]⟩ : ByteArray)).size + (strOfNums y413).size ≤ 9223372036854775807 then (if ((((((((t407 ++ (⟨#[32, 49, 32]⟩ : ByteArray)) ++ (strOfNums y408)) ++ (⟨#[10]⟩ : ByteArray)) ++ t411) ++ (⟨#[32]⟩ : ByteArray)) ++ t412) ++ (⟨#[32]⟩ : ByteArray)) ++ (strOfNums y413)).size + 1 ≤ 9223372036854775807 then (salvorlaw17_MapParts.j2 k2 a3 (Int.tmod (wrap64 (a2)) (t396.length : Int)) x12_2 x13_2 x14_2 (((((((((t407 ++ (⟨#[32, 49, 32]⟩ : ByteArray)) ++ (strOfNums y408)) ++ (⟨#[10]⟩ : ByteArray)) ++ t411) ++ (⟨#[32]⟩ : ByteArray)) ++ t412) ++ (⟨#[32]⟩ : ByteArray)) ++ (strOfNums y413)) ++ (⟨#[10]⟩ : ByteArray)) 0 0 43 t396 ((rd_T23 t396 x14_2).f0) ((rd_T23 t396 x14_2).f1) ((rd_T23 t396 x14_2).f2)) else (none)) else (none))) else (none)) else (none))) else (none)) else (none))) else (none)) else (none))) else (none))) else (salvorlaw17_MapParts.j2 k2 a3 (Int.tmod (wrap64 (a2)) (t396.length : Int)) x12_2 x13_2 x14_2 (((((t402 ++ (⟨#[32]⟩ : ByteArray)) ++ t403) ++ (⟨#[32]⟩ : ByteArray)) ++ (strOfNums y404)) ++ (⟨#[10]⟩ : ByteArray)) 0 0 43 t396 ((rd_T23 t396 x14_2).f0) ((rd_T23 t396 x14_2).f1) ((rd_T23 t396 x14_2).f2))) else (if x12_2.size + (((((t402 ++ (⟨#[32]⟩ : ByteArray)) ++ t403) ++ (⟨#[32]⟩ : ByteArray)) ++ (strOfNums y404)) ++ (⟨#[10]⟩ : ByteArray)).size ≤ 9223372036854775807 then (if x13_2.size + (((((t402 ++ (⟨#[32]⟩ : ByteArray)) ++ t403) ++ (⟨#[32]⟩ : ByteArray)) ++ (strOfNums y404)) ++ (⟨#[10]⟩ : ByteArray)).size ≤ 9223372036854775807 then (salvorlaw17_MapParts.l0 k2 a3 (Int.tmod (wrap64 (a2)) (t396.length : Int)) (x12_2 ++ (((((t402 ++ (⟨#[32]⟩ : ByteArray)) ++ t403) ++ (⟨#[32]⟩ : ByteArray)) ++ (strOfNums y404)) ++ (⟨#[10]⟩ : ByteArray))) (x13_2 ++ (((((t402 ++ (⟨#[32]⟩ : ByteArray)) ++ t403) ++ (⟨#[32]⟩ : ByteArray)) ++ (strOfNums y404)) ++ (⟨#[10]⟩ : ByteArray))) (wrap64 (x14_2 + 1)) 0 0 43 t396) else (none)) else (none))) else (none)) else (none)) = some r := by first | (rw [hy404]; with_reducible exact H) | (have H2_ := (Option.bind_some _ _).symm.trans H; rw [hy404]; with_reducible exact H2_) | (have H2_ := (Option.bind_some _ _).symm.trans H; with_reducible exact H2_) | with_reducible exact H | (rw [hy404]; exact H) | exact H
     have Ny404 := Aside0.mk hy404
     clear hy404
     by_cases c23 : (((t402 ++ (⟨#[32]⟩ : ByteArray)) ++ t403) ++ (⟨#[32]⟩ : ByteArray)).size + (strOfNums y404).size ≤ 9223372036854775807
     rotate_left
     ·rw [if_neg c23] at H
      exact absurd H (by simp)
     rw [if_pos c23] at H
     have c23b0 := eq_true c23
     have c23b1 : decide ((((t402 ++ (⟨#[32]⟩ : ByteArray)) ++ t403) ++ (⟨#[32]⟩ : ByteArray)).size + (strOfNums y404).size ≤ 9223372036854775807) = true := decide_eq_true c23
     try have c23b2 : (9223372036854775807 < (((t402 ++ (⟨#[32]⟩ : ByteArray)) ++ t403) ++ (⟨#[32]⟩ : ByteArray)).size + (strOfNums y404).size) = False := eq_false (Nat.not_lt.2 c23)
     try have c23b3 : (9223372036854775807 < t402.size + 1 + t403.size + 1 + (strOfNums y404).size) = False := eq_false (Nat.not_lt.2 (by have h_ := c23; simp only [ByteArray.size_append] at h_; exact h_))
     by_cases c24 : ((((t402 ++ (⟨#[32]⟩ : ByteArray)) ++ t403) ++ (⟨#[32]⟩ : ByteArray)) ++ (strOfNums y404)).size + 1 ≤ 9223372036854775807
     rotate_left
     ·rw [if_neg c24] at H
      exact absurd H (by simp)
     rw [if_pos c24] at H
     have c24b0 := eq_true c24
     have c24b1 : decide (((((t402 ++ (⟨#[32]⟩ : ByteArray)) ++ t403) ++ (⟨#[32]⟩ : ByteArray)) ++ (strOfNums y404)).size + 1 ≤ 9223372036854775807) = true := decide_eq_true c24
     try have c24b2 : (9223372036854775807 < ((((t402 ++ (⟨#[32]⟩ : ByteArray)) ++ t403) ++ (⟨#[32]⟩ : ByteArray)) ++ (strOfNums y404)).size + 1) = False := eq_false (Nat.not_lt.2 c24)
     try have c24b3 : (9223372036854775807 < t402.size + 1 + t403.size + 1 + (strOfNums y404).size + 1) = False := eq_false (Nat.not_lt.2 (by have h_ := c24; simp only [ByteArray.size_append] at h_; exact h_))
     by_cases c25 : x14_2 = (Int.tmod (wrap64 (a2)) (t396.length : Int))
     rotate_left
     ·rw [if_neg c25] at H
      have c25b0 : (x14_2 == (Int.tmod (wrap64 (a2)) (t396.length : Int))) = false := beq_eq_false_iff_ne.mpr c25
      have c25b1 : (x14_2 != (Int.tmod (wrap64 (a2)) (t396.length : Int))) = true := bne_iff_ne.mpr c25
      by_cases c100 : x12_2.size + (((((t402 ++ (⟨#[32]⟩ : ByteArray)) ++ t403) ++ (⟨#[32]⟩ : ByteArray)) ++ (strOfNums y404)) ++ (⟨#[10]⟩ : ByteArray)).size ≤ 9223372036854775807
      rotate_left
      ·rw [if_neg c100] at H
       exact absurd H (by simp)
      rw [if_pos c100] at H
      have c100b0 := eq_true c100
      have c100b1 : decide (x12_2.size + (((((t402 ++ (⟨#[32]⟩ : ByteArray)) ++ t403) ++ (⟨#[32]⟩ : ByteArray)) ++ (strOfNums y404)) ++ (⟨#[10]⟩ : ByteArray)).size ≤ 9223372036854775807) = true := decide_eq_true c100
      try have c100b2 : (9223372036854775807 < x12_2.size + (((((t402 ++ (⟨#[32]⟩ : ByteArray)) ++ t403) ++ (⟨#[32]⟩ : ByteArray)) ++ (strOfNums y404)) ++ (⟨#[10]⟩ : ByteArray)).size) = False := eq_false (Nat.not_lt.2 c100)
      try have c100b3 : (9223372036854775807 < x12_2.size + t402.size + 1 + t403.size + 1 + (strOfNums y404).size + 1) = False := eq_false (Nat.not_lt.2 (by have h_ := c100; simp only [ByteArray.size_append] at h_; exact h_))
      by_cases c101 : x13_2.size + (((((t402 ++ (⟨#[32]⟩ : ByteArray)) ++ t403) ++ (⟨#[32]⟩ : ByteArray)) ++ (strOfNums y404)) ++ (⟨#[10]⟩ : ByteArray)).size ≤ 9223372036854775807
      rotate_left
      ·rw [if_neg c101] at H
       exact absurd H (by simp)
      rw [if_pos c101] at H
      have c101b0 := eq_true c101
      have c101b1 : decide (x13_2.size + (((((t402 ++ (⟨#[32]⟩ : ByteArray)) ++ t403) ++ (⟨#[32]⟩ : ByteArray)) ++ (strOfNums y404)) ++ (⟨#[10]⟩ : ByteArray)).size ≤ 9223372036854775807) = true := decide_eq_true c101
      try have c101b2 : (9223372036854775807 < x13_2.size + (((((t402 ++ (⟨#[32]⟩ : ByteArray)) ++ t403) ++ (⟨#[32]⟩ : ByteArray)) ++ (strOfNums y404)) ++ (⟨#[10]⟩ : ByteArray)).size) = False := eq_false (Nat.not_lt.2 c101)
      try have c101b3 : (9223372036854775807 < x13_2.size + t402.size + 1 + t403.size + 1 + (strOfNums y404).size + 1) = False := eq_false (Nat.not_lt.2 (by have h_ := c101; simp only [ByteArray.size_append] at h_; exact h_))
      have H' := Aside0.mk H
      clear H
      obtain ⟨hcz102_0, hcz102_1, hcz102_2, hcz102_3, hfz102_0, hfz102_1, hfz102_2, hfz102_3⟩ := c4_ BK399
      have p400 : 0 ≤ (x14_2 : Int) := of_decide_eq_true (by first | (with_reducible assumption) | assumption)
      have q400 : x14_2 < (t396.length : Int) := of_decide_eq_true (by first | (with_reducible assumption) | assumption)
      obtain ⟨ad400, e400, hx400_0, hx400_1, hx400_2⟩ := at_T23 (Kd.R_reads' HO_400003.out).2.2 x14_2 p400 q400
      cases e400
      replace p400 := eq_true p400
      replace q400 := eq_true q400
      try go_wp2_with (first | ((with_reducible refine gate_dst (N := 15) rfl ?_); refine box_e 15 #[.int .i64 0, .int .i64 0, .int .u8 0] 23 ?_; intro gb401 hg w103 hbox hb; have n0_ := Aside0.mk (Kd.R_below (Kd.R_elderB (ky_ HO_400003) gb401 (Nat.le_of_eq hg.symm)) hb); have n1_ := bb_ BK399 hb; have n2_ := bs_ HB hb; have n3_ := Aside0.mk hbox; have n4_ := bg_ HB hg; have n5_ := bg_ HB hg; have n6_ := bn_ BK399 hg; have n7_ := bm_ BK399 hg; clear HO_400003; clear BK399; clear HB; have HO_400003 := n0_; have BK399 := n1_; have HB := n2_; have BK401 := n3_; have GW401 := n4_; have GE401 := n5_; have NB399_401 := n6_; have NB401_399 := n7_; clear n0_ n1_ n2_ n3_ n4_ n5_ n6_ n7_; clear hb hbox hg; have hnb104 := NB401_399.out; have hnc104 := NB399_401.out; obtain ⟨hcz105_0, hcz105_1, hcz105_2, hfz105_0, hfz105_1, hfz105_2⟩ := c3_ BK401))
      have n0_ : Aside0 (Kd.R k23 23 (((w103.setCell ⟨gb401, 0, none⟩ (.int .i64 ((rd_T23 t396 x14_2).f0))).setCell ⟨gb401, 1, none⟩ (.int .i64 ((rd_T23 t396 x14_2).f1))).setCell ⟨gb401, 2, none⟩ (.int .u8 ((rd_T23 t396 x14_2).f2))) w.heap.size (fun k_ => k_ ≠ gb401) (.slice (some ad400) t396.length co13) t396) := ⟨by (with_reducible repeat (first | apply Kd.R_alloc | apply Kd.R_drewN | apply Kd.R_drew)); exact Kd.R_mono (Kd.R_far (p := ⟨gb401, 2, none⟩) (Kd.R_far (p := ⟨gb401, 1, none⟩) (Kd.R_far (p := ⟨gb401, 0, none⟩) (Kd.R_mono HO_400003.out (fun k_ hk => (⟨hk, hk.2⟩ : _ ∧ k_ ≠ gb401))) (fun _ hk => hk.2) (.int .i64 ((rd_T23 t396 x14_2).f0))) (fun _ hk => hk.2) (.int .i64 ((rd_T23 t396 x14_2).f1))) (fun _ hk => hk.2) (.int .u8 ((rd_T23 t396 x14_2).f2))) (fun _ hk => hk.1.2)⟩
      have n1_ : Aside0 ((((w103.setCell ⟨gb401, 0, none⟩ (.int .i64 ((rd_T23 t396 x14_2).f0))).setCell ⟨gb401, 1, none⟩ (.int .i64 ((rd_T23 t396 x14_2).f1))).setCell ⟨gb401, 2, none⟩ (.int .u8 ((rd_T23 t396 x14_2).f2))).heap[gb399]? = some (.cells #[.int .i64 0, .int .i64 0, .int .u8 43, .slice (some ad400) t396.length co13] 26 (0, 0))) := ⟨by (with_reducible repeat (first | refine blk_drewN ?_ _ | refine blk_drew ?_ | refine blk_alloc ?_ _)); refine blk_far ?_ NB399_401.out _; (with_reducible repeat (first | refine blk_drewN ?_ _ | refine blk_drew ?_ | refine blk_alloc ?_ _)); refine blk_far ?_ NB399_401.out _; (with_reducible repeat (first | refine blk_drewN ?_ _ | refine blk_drew ?_ | refine blk_alloc ?_ _)); refine blk_far ?_ NB399_401.out _; (with_reducible repeat (first | refine blk_drewN ?_ _ | refine blk_drew ?_ | refine blk_alloc ?_ _)); exact BK399.out⟩
      have n2_ : Aside0 ((((w103.setCell ⟨gb401, 0, none⟩ (.int .i64 ((rd_T23 t396 x14_2).f0))).setCell ⟨gb401, 1, none⟩ (.int .i64 ((rd_T23 t396 x14_2).f1))).setCell ⟨gb401, 2, none⟩ (.int .u8 ((rd_T23 t396 x14_2).f2))).heap[gb401]? = some (.cells #[.int .i64 ((rd_T23 t396 x14_2).f0), .int .i64 ((rd_T23 t396 x14_2).f1), .int .u8 ((rd_T23 t396 x14_2).f2)] 23 (0, 0))) := ⟨by (with_reducible repeat (first | refine blk_drewN ?_ _ | refine blk_drew ?_ | refine blk_alloc ?_ _)); refine blk_put (cs := #[.int .i64 ((rd_T23 t396 x14_2).f0), .int .i64 ((rd_T23 t396 x14_2).f1), .int .u8 0]) ?_ 2 _ rfl; (with_reducible repeat (first | refine blk_drewN ?_ _ | refine blk_drew ?_ | refine blk_alloc ?_ _)); refine blk_put (cs := #[.int .i64 ((rd_T23 t396 x14_2).f0), .int .i64 0, .int .u8 0]) ?_ 1 _ rfl; (with_reducible repeat (first | refine blk_drewN ?_ _ | refine blk_drew ?_ | refine blk_alloc ?_ _)); refine blk_put (cs := #[.int .i64 0, .int .i64 0, .int .u8 0]) ?_ 0 _ rfl; (with_reducible repeat (first | refine blk_drewN ?_ _ | refine blk_drew ?_ | refine blk_alloc ?_ _)); exact BK401.out⟩
      have n3_ : Aside0 (Below w.heap.size w (((w103.setCell ⟨gb401, 0, none⟩ (.int .i64 ((rd_T23 t396 x14_2).f0))).setCell ⟨gb401, 1, none⟩ (.int .i64 ((rd_T23 t396 x14_2).f1))).setCell ⟨gb401, 2, none⟩ (.int .u8 ((rd_T23 t396 x14_2).f2)))) := ⟨bh_ HB⟩
      (try clear HO_400003)
      (try clear BK399)
      (try clear BK401)
      (try clear HB)
      generalize (((w103.setCell ⟨gb401, 0, none⟩ (.int .i64 ((rd_T23 t396 x14_2).f0))).setCell ⟨gb401, 1, none⟩ (.int .i64 ((rd_T23 t396 x14_2).f1))).setCell ⟨gb401, 2, none⟩ (.int .u8 ((rd_T23 t396 x14_2).f2))) = w106 at n0_ n1_ n2_ n3_ ⊢
      have HO_400003 := n0_
      have BK399 := n1_
      have BK401 := n2_
      have HB := n3_
      clear n0_ n1_ n2_ n3_
      replace HO_400003 := Aside0.mk (Kd.R_drew HO_400003.out)
      replace BK399 := Aside0.mk (blk_drew BK399.out)
      replace BK401 := Aside0.mk (blk_drew BK401.out)
      replace HB := Aside0.mk (below_drew1 HB.out)
      refine start_ (n := 16) (S := fun w' => w'.cell? ⟨gb401, 0, none⟩ = some (.int .i64 ((rd_T23 t396 x14_2).f0)) ∧ w'.cell? ⟨gb401, 1, none⟩ = some (.int .i64 ((rd_T23 t396 x14_2).f1)) ∧ w'.cell? ⟨gb401, 2, none⟩ = some (.int .u8 ((rd_T23 t396 x14_2).f2))) (ds := []) bz_0 (by kernel_rfl) rfl rfl (k3_ BK401) (fun hHeld => ?_); refine with_tabW salvorlaw17_MapParts.tab13 salvorlaw17_MapParts.bits13 (fun HT_ HW_ => ?_)
      generalize w106.drew = w107 at HO_400003 BK399 BK401 HB hHeld ⊢
      refine pu_ 0 57 (lb_ 16 1) rfl rfl (ao_ HT_) ?_
      refine pu_ 4 61 (lb_ 16 17) rfl rfl (ao_ HT_) ?_
      refine pu_ 9 66 (lb_ 16 529) rfl rfl (ao_ HT_) ?_
      refine tk_ 1 58 (lb_ 16 531) rfl rfl (take_ofW HT_.out HW_.out (by kernel_rfl)) hHeld ?_
      refine tk_ 5 62 (lb_ 16 563) rfl rfl (take_ofW HT_.out HW_.out (by kernel_rfl)) hHeld ?_
      refine tk_ 10 67 (lb_ 16 1587) rfl rfl (take_ofW HT_.out HW_.out (by kernel_rfl)) hHeld ?_
      refine join_ (σ := Value) 3 bz_1 (fun s_ => [(59, .string t402), (63, .string t403), (68, s_), (69, .string (strOfNums y404)), (60, .string (t402 ++ (⟨#[32]⟩ : ByteArray))), (64, .string ((t402 ++ (⟨#[32]⟩ : ByteArray)) ++ t403)), (65, .string (((t402 ++ (⟨#[32]⟩ : ByteArray)) ++ t403) ++ (⟨#[32]⟩ : ByteArray)))]) (fun s_ w' => (w'.cell? ⟨gb401, 0, none⟩ = some (.int .i64 ((rd_T23 t396 x14_2).f0)) ∧ w'.cell? ⟨gb401, 1, none⟩ = some (.int .i64 ((rd_T23 t396 x14_2).f1)) ∧ w'.cell? ⟨gb401, 2, none⟩ = some (.int .u8 ((rd_T23 t396 x14_2).f2))) ∧ (Kd.R (Kd.int .u8) 5 w' w.heap.size (fun _ => True) s_ y404) ∧ (Kd.R k23 23 w' w.heap.size (fun k_ => k_ ≠ gb401) (.slice (some ad400) t396.length co13) t396) ∧ (w'.heap[gb399]? = some (.cells #[.int .i64 0, .int .i64 0, .int .u8 43, .slice (some ad400) t396.length co13] 26 (0, 0))) ∧ (w'.heap[gb401]? = some (.cells #[.int .i64 ((rd_T23 t396 x14_2).f0), .int .i64 ((rd_T23 t396 x14_2).f1), .int .u8 ((rd_T23 t396 x14_2).f2)] 23 (0, 0))) ∧ (Below w.heap.size w w')) ?_ ?_
      rotate_left
      ·intro hJ2_6_11_12
       refine join_ (σ := Value) 4 bz_2 (fun s_ => [(59, .string t402), (63, .string t403), (68, s_), (60, .string (t402 ++ (⟨#[32]⟩ : ByteArray))), (64, .string ((t402 ++ (⟨#[32]⟩ : ByteArray)) ++ t403)), (65, .string (((t402 ++ (⟨#[32]⟩ : ByteArray)) ++ t403) ++ (⟨#[32]⟩ : ByteArray)))]) (fun s_ w' => (w'.cell? ⟨gb401, 0, none⟩ = some (.int .i64 ((rd_T23 t396 x14_2).f0)) ∧ w'.cell? ⟨gb401, 1, none⟩ = some (.int .i64 ((rd_T23 t396 x14_2).f1)) ∧ w'.cell? ⟨gb401, 2, none⟩ = some (.int .u8 ((rd_T23 t396 x14_2).f2))) ∧ (Kd.R (Kd.int .u8) 5 w' w.heap.size (fun _ => True) s_ y404) ∧ (Kd.R k23 23 w' w.heap.size (fun k_ => k_ ≠ gb401) (.slice (some ad400) t396.length co13) t396) ∧ (w'.heap[gb399]? = some (.cells #[.int .i64 0, .int .i64 0, .int .u8 43, .slice (some ad400) t396.length co13] 26 (0, 0))) ∧ (w'.heap[gb401]? = some (.cells #[.int .i64 ((rd_T23 t396 x14_2).f0), .int .i64 ((rd_T23 t396 x14_2).f1), .int .u8 ((rd_T23 t396 x14_2).f2)] 23 (0, 0))) ∧ (Below w.heap.size w w')) ?_ ?_
       ·as_aux_lemma =>
         clear HO_400003 BK399 BK401 HB
         rintro v405 w112 ⟨hHeld, h0_, h1_, h2_, h3_, h4_⟩
         have HO406 := Aside0.mk h0_; have HO_400003 := Aside0.mk h1_; have BK399 := Aside0.mk h2_; have BK401 := Aside0.mk h3_; have HB := Aside0.mk h4_; clear h0_ h1_ h2_ h3_ h4_
         refine norm_ (a' := ?_) ?_ ?_
         rotate_left
         ·simp only [putAll, Act.put, List.setIfInBounds_toArray, List.set_cons_zero, List.set_cons_succ]
          rfl
         refine one_ (i := 12) (N := some 69) bz_1 rfl rfl (one_of HT_.out (by kernel_rfl)) (by decide) (fun K hK => ?_)
         have hcv113 := own_string (P := Tryz.prog) Tryz.underlying39 Tryz.underlying5 Tryz.underlying9 (Kd.own_of_R HO406.out)
         refine value_ (w1 := ?_) (v := ?_) (by rfl) rfl ?_ ?_
         rotate_left 2
         ·go_simp
          constructor
          ·rfl
          rfl
         clear hcv113
         refine hK.out _ _ (k3_ BK401) (fun hHeld => ?_)
         clear hK K
         refine nm_ 69 ?_
         exact nx_ (hJ2_6_11_12 (v405) _ ⟨hHeld, (ky_ HO406), (ky_ HO_400003), (bq_ BK399), (bq_ BK401), (bh_ HB)⟩)
       intro hJ2_6_11
       refine join_ (σ := Value) 6 bz_3 (fun s_ => [(59, .string t402), (68, s_), (69, .string (strOfNums y404)), (60, .string (t402 ++ (⟨#[32]⟩ : ByteArray)))]) (fun s_ w' => (w'.cell? ⟨gb401, 0, none⟩ = some (.int .i64 ((rd_T23 t396 x14_2).f0)) ∧ w'.cell? ⟨gb401, 1, none⟩ = some (.int .i64 ((rd_T23 t396 x14_2).f1)) ∧ w'.cell? ⟨gb401, 2, none⟩ = some (.int .u8 ((rd_T23 t396 x14_2).f2))) ∧ (Kd.R (Kd.int .u8) 5 w' w.heap.size (fun _ => True) s_ y404) ∧ (Kd.R k23 23 w' w.heap.size (fun k_ => k_ ≠ gb401) (.slice (some ad400) t396.length co13) t396) ∧ (w'.heap[gb399]? = some (.cells #[.int .i64 0, .int .i64 0, .int .u8 43, .slice (some ad400) t396.length co13] 26 (0, 0))) ∧ (w'.heap[gb401]? = some (.cells #[.int .i64 ((rd_T23 t396 x14_2).f0), .int .i64 ((rd_T23 t396 x14_2).f1), .int .u8 ((rd_T23 t396 x14_2).f2)] 23 (0, 0))) ∧ (Below w.heap.size w w')) ?_ ?_
       ·as_aux_lemma =>
         clear HO_400003 BK399 BK401 HB
         rintro v405 w112 ⟨hHeld, h0_, h1_, h2_, h3_, h4_⟩
         have HO406 := Aside0.mk h0_; have HO_400003 := Aside0.mk h1_; have BK399 := Aside0.mk h2_; have BK401 := Aside0.mk h3_; have HB := Aside0.mk h4_; clear h0_ h1_ h2_ h3_ h4_
         refine norm_ (a' := ?_) ?_ ?_
         rotate_left
         ·simp only [putAll, Act.put, List.setIfInBounds_toArray, List.set_cons_zero, List.set_cons_succ]
          rfl
         refine one_ (i := 6) (N := some 63) bz_4 rfl rfl (one_of HT_.out (by kernel_rfl)) (by decide) (fun K hK => ?_)
         refine gq_ Tryz.func22 (by kernel_rfl) rfl #[.int .i64 ((rd_T23 t396 x14_2).f1)] (by rfl) rfl rfl ?_
         with_reducible refine (num_Dec.calls ((rd_T23 t396 x14_2).f1) t403 _ A20.out ?tb90_).mono ?_
         (case tb90_ => exact tb_ HTAB HB)
         rintro e w113 ⟨rfl, hb⟩
         refine ⟨_, rfl, ?_⟩
         replace HO_400003 := Aside0.mk (Kd.R_below (ky_ HO_400003) hb)
         replace HO406 := Aside0.mk (Kd.R_below (ky_ HO406) hb)
         replace BK399 := bb_ BK399 hb
         replace BK401 := bb_ BK401 hb
         replace HB := bs_ HB hb
         (try clear hb)
         refine hK.out _ _ (k3_ BK401) (fun hHeld => ?_)
         clear hK K
         refine nm_ 63 ?_
         refine pu_ 7 64 (lb_ 16 7935) rfl rfl (ao_ HT_) ?_
         refine pu_ 8 65 (lb_ 16 8191) rfl rfl (ao_ HT_) ?_
         exact nx_ (hJ2_6_11_12 (v405) _ ⟨hHeld, (ky_ HO406), (ky_ HO_400003), (bq_ BK399), (bq_ BK401), (bh_ HB)⟩)
       intro hJ2_11_12
       refine join_ (σ := Unit) 5 bz_5 (fun s_ => [(59, .string t402), (63, .string t403), (60, .string (t402 ++ (⟨#[32]⟩ : ByteArray))), (64, .string ((t402 ++ (⟨#[32]⟩ : ByteArray)) ++ t403)), (65, .string (((t402 ++ (⟨#[32]⟩ : ByteArray)) ++ t403) ++ (⟨#[32]⟩ : ByteArray)))]) (fun s_ w' => (w'.cell? ⟨gb401, 0, none⟩ = some (.int .i64 ((rd_T23 t396 x14_2).f0)) ∧ w'.cell? ⟨gb401, 1, none⟩ = some (.int .i64 ((rd_T23 t396 x14_2).f1)) ∧ w'.cell? ⟨gb401, 2, none⟩ = some (.int .u8 ((rd_T23 t396 x14_2).f2))) ∧ (Kd.R k23 23 w' w.heap.size (fun k_ => k_ ≠ gb401) (.slice (some ad400) t396.length co13) t396) ∧ (w'.heap[gb399]? = some (.cells #[.int .i64 0, .int .i64 0, .int .u8 43, .slice (some ad400) t396.length co13] 26 (0, 0))) ∧ (w'.heap[gb401]? = some (.cells #[.int .i64 ((rd_T23 t396 x14_2).f0), .int .i64 ((rd_T23 t396 x14_2).f1), .int .u8 ((rd_T23 t396 x14_2).f2)] 23 (0, 0))) ∧ (Below w.heap.size w w')) ?_ ?_
       ·as_aux_lemma =>
         clear HO_400003 BK399 BK401 HB
         rintro _ w110 ⟨hHeld, h0_, h1_, h2_, h3_⟩
         have HO_400003 := Aside0.mk h0_; have BK399 := Aside0.mk h1_; have BK401 := Aside0.mk h2_; have HB := Aside0.mk h3_; clear h0_ h1_ h2_ h3_
         refine norm_ (a' := ?_) ?_ ?_
         rotate_left
         ·simp only [putAll, Act.put, List.setIfInBounds_toArray, List.set_cons_zero, List.set_cons_succ]
          rfl
         refine one_ (i := 11) (N := some 68) bz_2 rfl rfl (one_of HT_.out (by kernel_rfl)) (by decide) (fun K hK => ?_)
         refine Kd.R_lit_step (Kd.int .u8) _ 5 ?hg (N := 68) ?hd (xs := ([(rd_T23 t396 x14_2).f2] : List Int)) (inner := [.int .u8 ((rd_T23 t396 x14_2).f2)]) (ok := fun _ => True) (okp := fun _ => True) ?hr ?hp (fun _ hk => hk) trivial (Below.refl _ _) (Nat.le_refl _) (by simp) ?_; (case hd => rfl); (case hg => rfl); (case hr => first | (go_simp; done) | (go_simp; rfl)); (case hp => exact (Reps.one (show Kd.M (Kd.int .u8) _ _ _ ((rd_T23 t396 x14_2).f2) [.int .u8 ((rd_T23 t396 x14_2).f2)] from rfl) (Reps.none _ _)))
         intro v405 w111 ho112 hb hg_ hnew_
         clear hg_ hnew_
         (first | rw [← Ny404.out] at ho112 | (simp only [Int.reduceToNat] at ho112; rw [← Ny404.out] at ho112))
         replace HO_400003 := Aside0.mk (Kd.R_below (ky_ HO_400003) hb)
         have HO406 := Aside0.mk (Kd.R_lower ho112 (below_size (bh_ HB)))
         replace BK399 := bb_ BK399 hb
         replace BK401 := bb_ BK401 hb
         replace HB := bs_ HB hb
         clear hb ho112
         refine hK.out _ _ (k3_ BK401) (fun hHeld => ?_)
         clear hK K
         refine nm_ 68 ?_
         exact nx_ (hJ2_6_11 (v405) _ ⟨hHeld, (ky_ HO406), (ky_ HO_400003), (bq_ BK399), (bq_ BK401), (bh_ HB)⟩)
       intro hJ2_6
       refine join_ (σ := Value) 7 bz_6 (fun s_ => [(59, .string t402), (68, s_), (60, .string (t402 ++ (⟨#[32]⟩ : ByteArray)))]) (fun s_ w' => (w'.cell? ⟨gb401, 0, none⟩ = some (.int .i64 ((rd_T23 t396 x14_2).f0)) ∧ w'.cell? ⟨gb401, 1, none⟩ = some (.int .i64 ((rd_T23 t396 x14_2).f1)) ∧ w'.cell? ⟨gb401, 2, none⟩ = some (.int .u8 ((rd_T23 t396 x14_2).f2))) ∧ (Kd.R (Kd.int .u8) 5 w' w.heap.size (fun _ => True) s_ y404) ∧ (Kd.R k23 23 w' w.heap.size (fun k_ => k_ ≠ gb401) (.slice (some ad400) t396.length co13) t396) ∧ (w'.heap[gb399]? = some (.cells #[.int .i64 0, .int .i64 0, .int .u8 43, .slice (some ad400) t396.length co13] 26 (0, 0))) ∧ (w'.heap[gb401]? = some (.cells #[.int .i64 ((rd_T23 t396 x14_2).f0), .int .i64 ((rd_T23 t396 x14_2).f1), .int .u8 ((rd_T23 t396 x14_2).f2)] 23 (0, 0))) ∧ (Below w.heap.size w w')) ?_ ?_
       ·as_aux_lemma =>
         clear HO_400003 BK399 BK401 HB
         rintro v405 w111 ⟨hHeld, h0_, h1_, h2_, h3_, h4_⟩
         have HO406 := Aside0.mk h0_; have HO_400003 := Aside0.mk h1_; have BK399 := Aside0.mk h2_; have BK401 := Aside0.mk h3_; have HB := Aside0.mk h4_; clear h0_ h1_ h2_ h3_ h4_
         refine norm_ (a' := ?_) ?_ ?_
         rotate_left
         ·simp only [putAll, Act.put, List.setIfInBounds_toArray, List.set_cons_zero, List.set_cons_succ]
          rfl
         refine two_ (i := 6) (j := 12) (Ni := some 63) (Nj := some 69) bz_7 bz_3 rfl rfl rfl rfl (two_of HT_.out (by kernel_rfl)) (by decide) (by decide) (fun K hK => ?_) (fun K hK => ?_)
         ·refine gq_ Tryz.func22 (by kernel_rfl) rfl #[.int .i64 ((rd_T23 t396 x14_2).f1)] (by rfl) rfl rfl ?_
          with_reducible refine (num_Dec.calls ((rd_T23 t396 x14_2).f1) t403 _ A20.out ?tb88_).mono ?_
          (case tb88_ => exact tb_ HTAB HB)
          rintro e w112 ⟨rfl, hb⟩
          refine ⟨_, rfl, ?_⟩
          replace HO_400003 := Aside0.mk (Kd.R_below (ky_ HO_400003) hb)
          replace HO406 := Aside0.mk (Kd.R_below (ky_ HO406) hb)
          replace BK399 := bb_ BK399 hb
          replace BK401 := bb_ BK401 hb
          replace HB := bs_ HB hb
          (try clear hb)
          refine hK.out _ _ (k3_ BK401) (fun hHeld => ?_)
          clear hK K
          refine nm_ 63 ?_
          refine pu_ 7 64 (lb_ 16 3839) rfl rfl (ao_ HT_) ?_
          refine pu_ 8 65 (lb_ 16 4095) rfl rfl (ao_ HT_) ?_
          exact nx_ (hJ2_6_11 (v405) _ ⟨hHeld, (ky_ HO406), (ky_ HO_400003), (bq_ BK399), (bq_ BK401), (bh_ HB)⟩)
         skip
         have hcv112 := own_string (P := Tryz.prog) Tryz.underlying39 Tryz.underlying5 Tryz.underlying9 (Kd.own_of_R HO406.out)
         refine value_ (w1 := ?_) (v := ?_) (by rfl) rfl ?_ ?_
         rotate_left 2
         ·go_simp
          constructor
          ·rfl
          rfl
         clear hcv112
         refine hK.out _ _ (k3_ BK401) (fun hHeld => ?_)
         clear hK K
         refine nm_ 69 ?_
         exact nx_ (hJ2_11_12 (v405) _ ⟨hHeld, (ky_ HO406), (ky_ HO_400003), (bq_ BK399), (bq_ BK401), (bh_ HB)⟩)
       intro hJ2_11
       refine join_ (σ := Value) 8 bz_8 (fun s_ => [(68, s_), (69, .string (strOfNums y404))]) (fun s_ w' => (w'.cell? ⟨gb401, 0, none⟩ = some (.int .i64 ((rd_T23 t396 x14_2).f0)) ∧ w'.cell? ⟨gb401, 1, none⟩ = some (.int .i64 ((rd_T23 t396 x14_2).f1)) ∧ w'.cell? ⟨gb401, 2, none⟩ = some (.int .u8 ((rd_T23 t396 x14_2).f2))) ∧ (Kd.R (Kd.int .u8) 5 w' w.heap.size (fun _ => True) s_ y404) ∧ (Kd.R k23 23 w' w.heap.size (fun k_ => k_ ≠ gb401) (.slice (some ad400) t396.length co13) t396) ∧ (w'.heap[gb399]? = some (.cells #[.int .i64 0, .int .i64 0, .int .u8 43, .slice (some ad400) t396.length co13] 26 (0, 0))) ∧ (w'.heap[gb401]? = some (.cells #[.int .i64 ((rd_T23 t396 x14_2).f0), .int .i64 ((rd_T23 t396 x14_2).f1), .int .u8 ((rd_T23 t396 x14_2).f2)] 23 (0, 0))) ∧ (Below w.heap.size w w')) ?_ ?_
       ·as_aux_lemma =>
         clear HO_400003 BK399 BK401 HB
         rintro v405 w111 ⟨hHeld, h0_, h1_, h2_, h3_, h4_⟩
         have HO406 := Aside0.mk h0_; have HO_400003 := Aside0.mk h1_; have BK399 := Aside0.mk h2_; have BK401 := Aside0.mk h3_; have HB := Aside0.mk h4_; clear h0_ h1_ h2_ h3_ h4_
         refine norm_ (a' := ?_) ?_ ?_
         rotate_left
         ·simp only [putAll, Act.put, List.setIfInBounds_toArray, List.set_cons_zero, List.set_cons_succ]
          rfl
         refine one_ (i := 2) (N := some 59) bz_9 rfl rfl (one_of HT_.out (by kernel_rfl)) (by decide) (fun K hK => ?_)
         refine gq_ Tryz.func22 (by kernel_rfl) rfl #[.int .i64 ((rd_T23 t396 x14_2).f0)] (by rfl) rfl rfl ?_
         with_reducible refine (num_Dec.calls ((rd_T23 t396 x14_2).f0) t402 _ A18.out ?tb86_).mono ?_
         (case tb86_ => exact tb_ HTAB HB)
         rintro e w112 ⟨rfl, hb⟩
         refine ⟨_, rfl, ?_⟩
         replace HO_400003 := Aside0.mk (Kd.R_below (ky_ HO_400003) hb)
         replace HO406 := Aside0.mk (Kd.R_below (ky_ HO406) hb)
         replace BK399 := bb_ BK399 hb
         replace BK401 := bb_ BK401 hb
         replace HB := bs_ HB hb
         (try clear hb)
         refine hK.out _ _ (k3_ BK401) (fun hHeld => ?_)
         clear hK K
         refine nm_ 59 ?_
         refine pu_ 3 60 (lb_ 16 7743) rfl rfl (ao_ HT_) ?_
         exact nx_ (hJ2_11_12 (v405) _ ⟨hHeld, (ky_ HO406), (ky_ HO_400003), (bq_ BK399), (bq_ BK401), (bh_ HB)⟩)
       intro hJ11_12
       refine join_ (σ := Unit) 8 bz_10 (fun s_ => [(59, .string t402), (60, .string (t402 ++ (⟨#[32]⟩ : ByteArray)))]) (fun s_ w' => (w'.cell? ⟨gb401, 0, none⟩ = some (.int .i64 ((rd_T23 t396 x14_2).f0)) ∧ w'.cell? ⟨gb401, 1, none⟩ = some (.int .i64 ((rd_T23 t396 x14_2).f1)) ∧ w'.cell? ⟨gb401, 2, none⟩ = some (.int .u8 ((rd_T23 t396 x14_2).f2))) ∧ (Kd.R k23 23 w' w.heap.size (fun k_ => k_ ≠ gb401) (.slice (some ad400) t396.length co13) t396) ∧ (w'.heap[gb399]? = some (.cells #[.int .i64 0, .int .i64 0, .int .u8 43, .slice (some ad400) t396.length co13] 26 (0, 0))) ∧ (w'.heap[gb401]? = some (.cells #[.int .i64 ((rd_T23 t396 x14_2).f0), .int .i64 ((rd_T23 t396 x14_2).f1), .int .u8 ((rd_T23 t396 x14_2).f2)] 23 (0, 0))) ∧ (Below w.heap.size w w')) ?_ ?_
       ·as_aux_lemma =>
         clear HO_400003 BK399 BK401 HB
         rintro _ w109 ⟨hHeld, h0_, h1_, h2_, h3_⟩
         have HO_400003 := Aside0.mk h0_; have BK399 := Aside0.mk h1_; have BK401 := Aside0.mk h2_; have HB := Aside0.mk h3_; clear h0_ h1_ h2_ h3_
         refine norm_ (a' := ?_) ?_ ?_
         rotate_left
         ·simp only [putAll, Act.put, List.setIfInBounds_toArray, List.set_cons_zero, List.set_cons_succ]
          rfl
         refine two_ (i := 6) (j := 11) (Ni := some 63) (Nj := some 68) bz_11 bz_6 rfl rfl rfl rfl (two_of HT_.out (by kernel_rfl)) (by decide) (by decide) (fun K hK => ?_) (fun K hK => ?_)
         ·refine gq_ Tryz.func22 (by kernel_rfl) rfl #[.int .i64 ((rd_T23 t396 x14_2).f1)] (by rfl) rfl rfl ?_
          with_reducible refine (num_Dec.calls ((rd_T23 t396 x14_2).f1) t403 _ A20.out ?tb84_).mono ?_
          (case tb84_ => exact tb_ HTAB HB)
          rintro e w110 ⟨rfl, hb⟩
          refine ⟨_, rfl, ?_⟩
          replace HO_400003 := Aside0.mk (Kd.R_below (ky_ HO_400003) hb)
          replace BK399 := bb_ BK399 hb
          replace BK401 := bb_ BK401 hb
          replace HB := bs_ HB hb
          (try clear hb)
          refine hK.out _ _ (k3_ BK401) (fun hHeld => ?_)
          clear hK K
          refine nm_ 63 ?_
          refine pu_ 7 64 (lb_ 16 1791) rfl rfl (ao_ HT_) ?_
          refine pu_ 8 65 (lb_ 16 2047) rfl rfl (ao_ HT_) ?_
          exact nx_ (hJ2_6 () _ ⟨hHeld, (ky_ HO_400003), (bq_ BK399), (bq_ BK401), (bh_ HB)⟩)
         skip
         refine Kd.R_lit_step (Kd.int .u8) _ 5 ?hg (N := 68) ?hd (xs := ([(rd_T23 t396 x14_2).f2] : List Int)) (inner := [.int .u8 ((rd_T23 t396 x14_2).f2)]) (ok := fun _ => True) (okp := fun _ => True) ?hr ?hp (fun _ hk => hk) trivial (Below.refl _ _) (Nat.le_refl _) (by simp) ?_; (case hd => rfl); (case hg => rfl); (case hr => first | (go_simp; done) | (go_simp; rfl)); (case hp => exact (Reps.one (show Kd.M (Kd.int .u8) _ _ _ ((rd_T23 t396 x14_2).f2) [.int .u8 ((rd_T23 t396 x14_2).f2)] from rfl) (Reps.none _ _)))
         intro v405 w110 ho111 hb hg_ hnew_
         clear hg_ hnew_
         (first | rw [← Ny404.out] at ho111 | (simp only [Int.reduceToNat] at ho111; rw [← Ny404.out] at ho111))
         replace HO_400003 := Aside0.mk (Kd.R_below (ky_ HO_400003) hb)
         have HO406 := Aside0.mk (Kd.R_lower ho111 (below_size (bh_ HB)))
         replace BK399 := bb_ BK399 hb
         replace BK401 := bb_ BK401 hb
         replace HB := bs_ HB hb
         clear hb ho111
         refine hK.out _ _ (k3_ BK401) (fun hHeld => ?_)
         clear hK K
         refine nm_ 68 ?_
         exact nx_ (hJ2_11 (v405) _ ⟨hHeld, (ky_ HO406), (ky_ HO_400003), (bq_ BK399), (bq_ BK401), (bh_ HB)⟩)
       intro hJ2
       refine join_ (σ := Value) 9 bz_12 (fun s_ => [(68, s_)]) (fun s_ w' => (w'.cell? ⟨gb401, 0, none⟩ = some (.int .i64 ((rd_T23 t396 x14_2).f0)) ∧ w'.cell? ⟨gb401, 1, none⟩ = some (.int .i64 ((rd_T23 t396 x14_2).f1)) ∧ w'.cell? ⟨gb401, 2, none⟩ = some (.int .u8 ((rd_T23 t396 x14_2).f2))) ∧ (Kd.R (Kd.int .u8) 5 w' w.heap.size (fun _ => True) s_ y404) ∧ (Kd.R k23 23 w' w.heap.size (fun k_ => k_ ≠ gb401) (.slice (some ad400) t396.length co13) t396) ∧ (w'.heap[gb399]? = some (.cells #[.int .i64 0, .int .i64 0, .int .u8 43, .slice (some ad400) t396.length co13] 26 (0, 0))) ∧ (w'.heap[gb401]? = some (.cells #[.int .i64 ((rd_T23 t396 x14_2).f0), .int .i64 ((rd_T23 t396 x14_2).f1), .int .u8 ((rd_T23 t396 x14_2).f2)] 23 (0, 0))) ∧ (Below w.heap.size w w')) ?_ ?_
       ·as_aux_lemma =>
         clear HO_400003 BK399 BK401 HB
         rintro v405 w110 ⟨hHeld, h0_, h1_, h2_, h3_, h4_⟩
         have HO406 := Aside0.mk h0_; have HO_400003 := Aside0.mk h1_; have BK399 := Aside0.mk h2_; have BK401 := Aside0.mk h3_; have HB := Aside0.mk h4_; clear h0_ h1_ h2_ h3_ h4_
         refine norm_ (a' := ?_) ?_ ?_
         rotate_left
         ·simp only [putAll, Act.put, List.setIfInBounds_toArray, List.set_cons_zero, List.set_cons_succ]
          rfl
         refine two_ (i := 2) (j := 12) (Ni := some 59) (Nj := some 69) bz_13 bz_8 rfl rfl rfl rfl (two_of HT_.out (by kernel_rfl)) (by decide) (by decide) (fun K hK => ?_) (fun K hK => ?_)
         ·refine gq_ Tryz.func22 (by kernel_rfl) rfl #[.int .i64 ((rd_T23 t396 x14_2).f0)] (by rfl) rfl rfl ?_
          with_reducible refine (num_Dec.calls ((rd_T23 t396 x14_2).f0) t402 _ A18.out ?tb82_).mono ?_
          (case tb82_ => exact tb_ HTAB HB)
          rintro e w111 ⟨rfl, hb⟩
          refine ⟨_, rfl, ?_⟩
          replace HO_400003 := Aside0.mk (Kd.R_below (ky_ HO_400003) hb)
          replace HO406 := Aside0.mk (Kd.R_below (ky_ HO406) hb)
          replace BK399 := bb_ BK399 hb
          replace BK401 := bb_ BK401 hb
          replace HB := bs_ HB hb
          (try clear hb)
          refine hK.out _ _ (k3_ BK401) (fun hHeld => ?_)
          clear hK K
          refine nm_ 59 ?_
          refine pu_ 3 60 (lb_ 16 3647) rfl rfl (ao_ HT_) ?_
          exact nx_ (hJ2_11 (v405) _ ⟨hHeld, (ky_ HO406), (ky_ HO_400003), (bq_ BK399), (bq_ BK401), (bh_ HB)⟩)
         skip
         have hcv111 := own_string (P := Tryz.prog) Tryz.underlying39 Tryz.underlying5 Tryz.underlying9 (Kd.own_of_R HO406.out)
         refine value_ (w1 := ?_) (v := ?_) (by rfl) rfl ?_ ?_
         rotate_left 2
         ·go_simp
          constructor
          ·rfl
          rfl
         clear hcv111
         refine hK.out _ _ (k3_ BK401) (fun hHeld => ?_)
         clear hK K
         refine nm_ 69 ?_
         exact nx_ (hJ11_12 (v405) _ ⟨hHeld, (ky_ HO406), (ky_ HO_400003), (bq_ BK399), (bq_ BK401), (bh_ HB)⟩)
       intro hJ11
       refine two_ (i := 2) (j := 11) (Ni := some 59) (Nj := some 68) bz_14 bz_12 rfl rfl rfl rfl (two_of HT_.out (by kernel_rfl)) (by decide) (by decide) (fun K hK => ?_) (fun K hK => ?_)
       ·refine gq_ Tryz.func22 (by kernel_rfl) rfl #[.int .i64 ((rd_T23 t396 x14_2).f0)] (by rfl) rfl rfl ?_
        with_reducible refine (num_Dec.calls ((rd_T23 t396 x14_2).f0) t402 _ A18.out ?tb80_).mono ?_
        (case tb80_ => exact tb_ HTAB HB)
        rintro e w108 ⟨rfl, hb⟩
        refine ⟨_, rfl, ?_⟩
        replace HO_400003 := Aside0.mk (Kd.R_below (ky_ HO_400003) hb)
        replace BK399 := bb_ BK399 hb
        replace BK401 := bb_ BK401 hb
        replace HB := bs_ HB hb
        (try clear hb)
        refine hK.out _ _ (k3_ BK401) (fun hHeld => ?_)
        clear hK K
        refine nm_ 59 ?_
        refine pu_ 3 60 (lb_ 16 1599) rfl rfl (ao_ HT_) ?_
        exact nx_ (hJ2 () _ ⟨hHeld, (ky_ HO_400003), (bq_ BK399), (bq_ BK401), (bh_ HB)⟩)
       skip
       refine Kd.R_lit_step (Kd.int .u8) _ 5 ?hg (N := 68) ?hd (xs := ([(rd_T23 t396 x14_2).f2] : List Int)) (inner := [.int .u8 ((rd_T23 t396 x14_2).f2)]) (ok := fun _ => True) (okp := fun _ => True) ?hr ?hp (fun _ hk => hk) trivial (Below.refl _ _) (Nat.le_refl _) (by simp) ?_; (case hd => rfl); (case hg => rfl); (case hr => first | (go_simp; done) | (go_simp; rfl)); (case hp => exact (Reps.one (show Kd.M (Kd.int .u8) _ _ _ ((rd_T23 t396 x14_2).f2) [.int .u8 ((rd_T23 t396 x14_2).f2)] from rfl) (Reps.none _ _)))
       intro v405 w108 ho109 hb hg_ hnew_
       clear hg_ hnew_
       (first | rw [← Ny404.out] at ho109 | (simp only [Int.reduceToNat] at ho109; rw [← Ny404.out] at ho109))
       replace HO_400003 := Aside0.mk (Kd.R_below (ky_ HO_400003) hb)
       have HO406 := Aside0.mk (Kd.R_lower ho109 (below_size (bh_ HB)))
       replace BK399 := bb_ BK399 hb
       replace BK401 := bb_ BK401 hb
       replace HB := bs_ HB hb
       clear hb ho109
       refine hK.out _ _ (k3_ BK401) (fun hHeld => ?_)
       clear hK K
       refine nm_ 68 ?_
       exact nx_ (hJ11 (v405) _ ⟨hHeld, (ky_ HO406), (ky_ HO_400003), (bq_ BK399), (bq_ BK401), (bh_ HB)⟩)
      clear HO_400003 BK399 BK401 HB
      rintro v405 w113 ⟨hHeld, h0_, h1_, h2_, h3_, h4_⟩
      have HO406 := Aside0.mk h0_; have HO_400003 := Aside0.mk h1_; have BK399 := Aside0.mk h2_; have BK401 := Aside0.mk h3_; have HB := Aside0.mk h4_; clear h0_ h1_ h2_ h3_ h4_
      refine norm_ (a' := ?_) ?_ ?_
      rotate_left
      ·simp only [putAll, Act.put, List.setIfInBounds_toArray, List.set_cons_zero, List.set_cons_succ]
       rfl
      refine pu_ 13 70 (lb_ 16 16383) rfl rfl (ao_ HT_) ?_
      refine pu_ 14 71 (lb_ 16 32767) rfl rfl (ao_ HT_) ?_
      refine pu_ 15 16 (lb_ 16 65535) rfl rfl (ao_ HT_) ?_
      refine done_ (done_of HT_.out (by kernel_rfl)) ?_
      try go_wp2
      go_roundg k2
      case measure => have := HJ4.out; have := HK2.out; omega
      case rel => exact ⟨(x12_2 ++ (((((t402 ++ (⟨#[32]⟩ : ByteArray)) ++ t403) ++ (⟨#[32]⟩ : ByteArray)) ++ (strOfNums y404)) ++ (⟨#[10]⟩ : ByteArray))), (x13_2 ++ (((((t402 ++ (⟨#[32]⟩ : ByteArray)) ++ t403) ++ (⟨#[32]⟩ : ByteArray)) ++ (strOfNums y404)) ++ (⟨#[10]⟩ : ByteArray))), (wrap64 (x14_2 + 1)), (by first | rfl | (simp; done) | (simp [*]; done)), (by first | rfl | (simp; done) | (simp [*]; done)), (by first | rfl | (simp; done) | (simp [*]; done)), H', ⟨by have := HJ4.out; have := HK2.out; omega⟩, ⟨by (with_reducible repeat (first | apply Kd.R_alloc | apply Kd.R_drewN | apply Kd.R_drew)); exact Kd.R_mono HO_400003.out (fun _ hk => trivial)⟩, ⟨bq_ BK399⟩, ⟨bh_ HB⟩⟩
     rw [if_pos c25] at H
     have c25b0 : (x14_2 == (Int.tmod (wrap64 (a2)) (t396.length : Int))) = true := beq_iff_eq.mpr c25
     have c25b1 : (x14_2 != (Int.tmod (wrap64 (a2)) (t396.length : Int))) = false := bne_eq_false_iff_eq.mpr c25
     clear c25
     have HC26 := Aside0.mk H
     clear H
     obtain ⟨hcz27_0, hcz27_1, hcz27_2, hcz27_3, hfz27_0, hfz27_1, hfz27_2, hfz27_3⟩ := c4_ BK399
     have p400 : 0 ≤ (x14_2 : Int) := of_decide_eq_true (by first | (with_reducible assumption) | assumption)
     have q400 : x14_2 < (t396.length : Int) := of_decide_eq_true (by first | (with_reducible assumption) | assumption)
     obtain ⟨ad400, e400, hx400_0, hx400_1, hx400_2⟩ := at_T23 (Kd.R_reads' HO_400003.out).2.2 x14_2 p400 q400
     cases e400
     replace p400 := eq_true p400
     replace q400 := eq_true q400
     try go_wp2_with (first | ((with_reducible refine gate_dst (N := 15) rfl ?_); refine box_e 15 #[.int .i64 0, .int .i64 0, .int .u8 0] 23 ?_; intro gb401 hg w28 hbox hb; have n0_ := Aside0.mk (Kd.R_below (Kd.R_elderB (ky_ HO_400003) gb401 (Nat.le_of_eq hg.symm)) hb); have n1_ := bb_ BK399 hb; have n2_ := bs_ HB hb; have n3_ := Aside0.mk hbox; have n4_ := bg_ HB hg; have n5_ := bg_ HB hg; have n6_ := bn_ BK399 hg; have n7_ := bm_ BK399 hg; clear HO_400003; clear BK399; clear HB; have HO_400003 := n0_; have BK399 := n1_; have HB := n2_; have BK401 := n3_; have GW401 := n4_; have GE401 := n5_; have NB399_401 := n6_; have NB401_399 := n7_; clear n0_ n1_ n2_ n3_ n4_ n5_ n6_ n7_; clear hb hbox hg; have hnb29 := NB401_399.out; have hnc29 := NB399_401.out; obtain ⟨hcz30_0, hcz30_1, hcz30_2, hfz30_0, hfz30_1, hfz30_2⟩ := c3_ BK401))
     have n0_ : Aside0 (Kd.R k23 23 (((w28.setCell ⟨gb401, 0, none⟩ (.int .i64 ((rd_T23 t396 x14_2).f0))).setCell ⟨gb401, 1, none⟩ (.int .i64 ((rd_T23 t396 x14_2).f1))).setCell ⟨gb401, 2, none⟩ (.int .u8 ((rd_T23 t396 x14_2).f2))) w.heap.size (fun k_ => k_ ≠ gb401) (.slice (some ad400) t396.length co13) t396) := ⟨by (with_reducible repeat (first | apply Kd.R_alloc | apply Kd.R_drewN | apply Kd.R_drew)); exact Kd.R_mono (Kd.R_far (p := ⟨gb401, 2, none⟩) (Kd.R_far (p := ⟨gb401, 1, none⟩) (Kd.R_far (p := ⟨gb401, 0, none⟩) (Kd.R_mono HO_400003.out (fun k_ hk => (⟨hk, hk.2⟩ : _ ∧ k_ ≠ gb401))) (fun _ hk => hk.2) (.int .i64 ((rd_T23 t396 x14_2).f0))) (fun _ hk => hk.2) (.int .i64 ((rd_T23 t396 x14_2).f1))) (fun _ hk => hk.2) (.int .u8 ((rd_T23 t396 x14_2).f2))) (fun _ hk => hk.1.2)⟩
     have n1_ : Aside0 ((((w28.setCell ⟨gb401, 0, none⟩ (.int .i64 ((rd_T23 t396 x14_2).f0))).setCell ⟨gb401, 1, none⟩ (.int .i64 ((rd_T23 t396 x14_2).f1))).setCell ⟨gb401, 2, none⟩ (.int .u8 ((rd_T23 t396 x14_2).f2))).heap[gb399]? = some (.cells #[.int .i64 0, .int .i64 0, .int .u8 43, .slice (some ad400) t396.length co13] 26 (0, 0))) := ⟨by (with_reducible repeat (first | refine blk_drewN ?_ _ | refine blk_drew ?_ | refine blk_alloc ?_ _)); refine blk_far ?_ NB399_401.out _; (with_reducible repeat (first | refine blk_drewN ?_ _ | refine blk_drew ?_ | refine blk_alloc ?_ _)); refine blk_far ?_ NB399_401.out _; (with_reducible repeat (first | refine blk_drewN ?_ _ | refine blk_drew ?_ | refine blk_alloc ?_ _)); refine blk_far ?_ NB399_401.out _; (with_reducible repeat (first | refine blk_drewN ?_ _ | refine blk_drew ?_ | refine blk_alloc ?_ _)); exact BK399.out⟩
     have n2_ : Aside0 ((((w28.setCell ⟨gb401, 0, none⟩ (.int .i64 ((rd_T23 t396 x14_2).f0))).setCell ⟨gb401, 1, none⟩ (.int .i64 ((rd_T23 t396 x14_2).f1))).setCell ⟨gb401, 2, none⟩ (.int .u8 ((rd_T23 t396 x14_2).f2))).heap[gb401]? = some (.cells #[.int .i64 ((rd_T23 t396 x14_2).f0), .int .i64 ((rd_T23 t396 x14_2).f1), .int .u8 ((rd_T23 t396 x14_2).f2)] 23 (0, 0))) := ⟨by (with_reducible repeat (first | refine blk_drewN ?_ _ | refine blk_drew ?_ | refine blk_alloc ?_ _)); refine blk_put (cs := #[.int .i64 ((rd_T23 t396 x14_2).f0), .int .i64 ((rd_T23 t396 x14_2).f1), .int .u8 0]) ?_ 2 _ rfl; (with_reducible repeat (first | refine blk_drewN ?_ _ | refine blk_drew ?_ | refine blk_alloc ?_ _)); refine blk_put (cs := #[.int .i64 ((rd_T23 t396 x14_2).f0), .int .i64 0, .int .u8 0]) ?_ 1 _ rfl; (with_reducible repeat (first | refine blk_drewN ?_ _ | refine blk_drew ?_ | refine blk_alloc ?_ _)); refine blk_put (cs := #[.int .i64 0, .int .i64 0, .int .u8 0]) ?_ 0 _ rfl; (with_reducible repeat (first | refine blk_drewN ?_ _ | refine blk_drew ?_ | refine blk_alloc ?_ _)); exact BK401.out⟩
     have n3_ : Aside0 (Below w.heap.size w (((w28.setCell ⟨gb401, 0, none⟩ (.int .i64 ((rd_T23 t396 x14_2).f0))).setCell ⟨gb401, 1, none⟩ (.int .i64 ((rd_T23 t396 x14_2).f1))).setCell ⟨gb401, 2, none⟩ (.int .u8 ((rd_T23 t396 x14_2).f2)))) := ⟨bh_ HB⟩
     (try clear HO_400003)
     (try clear BK399)
     (try clear BK401)
     (try clear HB)
     generalize (((w28.setCell ⟨gb401, 0, none⟩ (.int .i64 ((rd_T23 t396 x14_2).f0))).setCell ⟨gb401, 1, none⟩ (.int .i64 ((rd_T23 t396 x14_2).f1))).setCell ⟨gb401, 2, none⟩ (.int .u8 ((rd_T23 t396 x14_2).f2))) = w31 at n0_ n1_ n2_ n3_ ⊢
     have HO_400003 := n0_
     have BK399 := n1_
     have BK401 := n2_
     have HB := n3_
     clear n0_ n1_ n2_ n3_
     replace HO_400003 := Aside0.mk (Kd.R_drew HO_400003.out)
     replace BK399 := Aside0.mk (blk_drew BK399.out)
     replace BK401 := Aside0.mk (blk_drew BK401.out)
     replace HB := Aside0.mk (below_drew1 HB.out)
     refine start_ (n := 16) (S := fun w' => w'.cell? ⟨gb401, 0, none⟩ = some (.int .i64 ((rd_T23 t396 x14_2).f0)) ∧ w'.cell? ⟨gb401, 1, none⟩ = some (.int .i64 ((rd_T23 t396 x14_2).f1)) ∧ w'.cell? ⟨gb401, 2, none⟩ = some (.int .u8 ((rd_T23 t396 x14_2).f2))) (ds := []) bz_0 (by kernel_rfl) rfl rfl (k3_ BK401) (fun hHeld => ?_); refine with_tabW salvorlaw17_MapParts.tab13 salvorlaw17_MapParts.bits13 (fun HT_ HW_ => ?_)
     generalize w31.drew = w32 at HO_400003 BK399 BK401 HB hHeld ⊢
     refine pu_ 0 57 (lb_ 16 1) rfl rfl (ao_ HT_) ?_
     refine pu_ 4 61 (lb_ 16 17) rfl rfl (ao_ HT_) ?_
     refine pu_ 9 66 (lb_ 16 529) rfl rfl (ao_ HT_) ?_
     refine tk_ 1 58 (lb_ 16 531) rfl rfl (take_ofW HT_.out HW_.out (by kernel_rfl)) hHeld ?_
     refine tk_ 5 62 (lb_ 16 563) rfl rfl (take_ofW HT_.out HW_.out (by kernel_rfl)) hHeld ?_
     refine tk_ 10 67 (lb_ 16 1587) rfl rfl (take_ofW HT_.out HW_.out (by kernel_rfl)) hHeld ?_
     refine join_ (σ := Value) 3 bz_1 (fun s_ => [(59, .string t402), (63, .string t403), (68, s_), (69, .string (strOfNums y404)), (60, .string (t402 ++ (⟨#[32]⟩ : ByteArray))), (64, .string ((t402 ++ (⟨#[32]⟩ : ByteArray)) ++ t403)), (65, .string (((t402 ++ (⟨#[32]⟩ : ByteArray)) ++ t403) ++ (⟨#[32]⟩ : ByteArray)))]) (fun s_ w' => (w'.cell? ⟨gb401, 0, none⟩ = some (.int .i64 ((rd_T23 t396 x14_2).f0)) ∧ w'.cell? ⟨gb401, 1, none⟩ = some (.int .i64 ((rd_T23 t396 x14_2).f1)) ∧ w'.cell? ⟨gb401, 2, none⟩ = some (.int .u8 ((rd_T23 t396 x14_2).f2))) ∧ (Kd.R (Kd.int .u8) 5 w' w.heap.size (fun _ => True) s_ y404) ∧ (Kd.R k23 23 w' w.heap.size (fun k_ => k_ ≠ gb401) (.slice (some ad400) t396.length co13) t396) ∧ (w'.heap[gb399]? = some (.cells #[.int .i64 0, .int .i64 0, .int .u8 43, .slice (some ad400) t396.length co13] 26 (0, 0))) ∧ (w'.heap[gb401]? = some (.cells #[.int .i64 ((rd_T23 t396 x14_2).f0), .int .i64 ((rd_T23 t396 x14_2).f1), .int .u8 ((rd_T23 t396 x14_2).f2)] 23 (0, 0))) ∧ (Below w.heap.size w w')) ?_ ?_
     rotate_left
     ·intro hJ2_6_11_12
      refine join_ (σ := Value) 4 bz_2 (fun s_ => [(59, .string t402), (63, .string t403), (68, s_), (60, .string (t402 ++ (⟨#[32]⟩ : ByteArray))), (64, .string ((t402 ++ (⟨#[32]⟩ : ByteArray)) ++ t403)), (65, .string (((t402 ++ (⟨#[32]⟩ : ByteArray)) ++ t403) ++ (⟨#[32]⟩ : ByteArray)))]) (fun s_ w' => (w'.cell? ⟨gb401, 0, none⟩ = some (.int .i64 ((rd_T23 t396 x14_2).f0)) ∧ w'.cell? ⟨gb401, 1, none⟩ = some (.int .i64 ((rd_T23 t396 x14_2).f1)) ∧ w'.cell? ⟨gb401, 2, none⟩ = some (.int .u8 ((rd_T23 t396 x14_2).f2))) ∧ (Kd.R (Kd.int .u8) 5 w' w.heap.size (fun _ => True) s_ y404) ∧ (Kd.R k23 23 w' w.heap.size (fun k_ => k_ ≠ gb401) (.slice (some ad400) t396.length co13) t396) ∧ (w'.heap[gb399]? = some (.cells #[.int .i64 0, .int .i64 0, .int .u8 43, .slice (some ad400) t396.length co13] 26 (0, 0))) ∧ (w'.heap[gb401]? = some (.cells #[.int .i64 ((rd_T23 t396 x14_2).f0), .int .i64 ((rd_T23 t396 x14_2).f1), .int .u8 ((rd_T23 t396 x14_2).f2)] 23 (0, 0))) ∧ (Below w.heap.size w w')) ?_ ?_
      ·as_aux_lemma =>
        clear HO_400003 BK399 BK401 HB
        rintro v405 w37 ⟨hHeld, h0_, h1_, h2_, h3_, h4_⟩
        have HO406 := Aside0.mk h0_; have HO_400003 := Aside0.mk h1_; have BK399 := Aside0.mk h2_; have BK401 := Aside0.mk h3_; have HB := Aside0.mk h4_; clear h0_ h1_ h2_ h3_ h4_
        refine norm_ (a' := ?_) ?_ ?_
        rotate_left
        ·simp only [putAll, Act.put, List.setIfInBounds_toArray, List.set_cons_zero, List.set_cons_succ]
         rfl
        refine one_ (i := 12) (N := some 69) bz_1 rfl rfl (one_of HT_.out (by kernel_rfl)) (by decide) (fun K hK => ?_)
        have hcv38 := own_string (P := Tryz.prog) Tryz.underlying39 Tryz.underlying5 Tryz.underlying9 (Kd.own_of_R HO406.out)
        refine value_ (w1 := ?_) (v := ?_) (by rfl) rfl ?_ ?_
        rotate_left 2
        ·go_simp
         constructor
         ·rfl
         rfl
        clear hcv38
        refine hK.out _ _ (k3_ BK401) (fun hHeld => ?_)
        clear hK K
        refine nm_ 69 ?_
        exact nx_ (hJ2_6_11_12 (v405) _ ⟨hHeld, (ky_ HO406), (ky_ HO_400003), (bq_ BK399), (bq_ BK401), (bh_ HB)⟩)
      intro hJ2_6_11
      refine join_ (σ := Value) 6 bz_3 (fun s_ => [(59, .string t402), (68, s_), (69, .string (strOfNums y404)), (60, .string (t402 ++ (⟨#[32]⟩ : ByteArray)))]) (fun s_ w' => (w'.cell? ⟨gb401, 0, none⟩ = some (.int .i64 ((rd_T23 t396 x14_2).f0)) ∧ w'.cell? ⟨gb401, 1, none⟩ = some (.int .i64 ((rd_T23 t396 x14_2).f1)) ∧ w'.cell? ⟨gb401, 2, none⟩ = some (.int .u8 ((rd_T23 t396 x14_2).f2))) ∧ (Kd.R (Kd.int .u8) 5 w' w.heap.size (fun _ => True) s_ y404) ∧ (Kd.R k23 23 w' w.heap.size (fun k_ => k_ ≠ gb401) (.slice (some ad400) t396.length co13) t396) ∧ (w'.heap[gb399]? = some (.cells #[.int .i64 0, .int .i64 0, .int .u8 43, .slice (some ad400) t396.length co13] 26 (0, 0))) ∧ (w'.heap[gb401]? = some (.cells #[.int .i64 ((rd_T23 t396 x14_2).f0), .int .i64 ((rd_T23 t396 x14_2).f1), .int .u8 ((rd_T23 t396 x14_2).f2)] 23 (0, 0))) ∧ (Below w.heap.size w w')) ?_ ?_
      ·as_aux_lemma =>
        clear HO_400003 BK399 BK401 HB
        rintro v405 w37 ⟨hHeld, h0_, h1_, h2_, h3_, h4_⟩
        have HO406 := Aside0.mk h0_; have HO_400003 := Aside0.mk h1_; have BK399 := Aside0.mk h2_; have BK401 := Aside0.mk h3_; have HB := Aside0.mk h4_; clear h0_ h1_ h2_ h3_ h4_
        refine norm_ (a' := ?_) ?_ ?_
        rotate_left
        ·simp only [putAll, Act.put, List.setIfInBounds_toArray, List.set_cons_zero, List.set_cons_succ]
         rfl
        refine one_ (i := 6) (N := some 63) bz_4 rfl rfl (one_of HT_.out (by kernel_rfl)) (by decide) (fun K hK => ?_)
        refine gq_ Tryz.func22 (by kernel_rfl) rfl #[.int .i64 ((rd_T23 t396 x14_2).f1)] (by rfl) rfl rfl ?_
        with_reducible refine (num_Dec.calls ((rd_T23 t396 x14_2).f1) t403 _ A20.out ?tb12_).mono ?_
        (case tb12_ => exact tb_ HTAB HB)
        rintro e w38 ⟨rfl, hb⟩
        refine ⟨_, rfl, ?_⟩
        replace HO_400003 := Aside0.mk (Kd.R_below (ky_ HO_400003) hb)
        replace HO406 := Aside0.mk (Kd.R_below (ky_ HO406) hb)
        replace BK399 := bb_ BK399 hb
        replace BK401 := bb_ BK401 hb
        replace HB := bs_ HB hb
        (try clear hb)
        refine hK.out _ _ (k3_ BK401) (fun hHeld => ?_)
        clear hK K
        refine nm_ 63 ?_
        refine pu_ 7 64 (lb_ 16 7935) rfl rfl (ao_ HT_) ?_
        refine pu_ 8 65 (lb_ 16 8191) rfl rfl (ao_ HT_) ?_
        exact nx_ (hJ2_6_11_12 (v405) _ ⟨hHeld, (ky_ HO406), (ky_ HO_400003), (bq_ BK399), (bq_ BK401), (bh_ HB)⟩)
      intro hJ2_11_12
      refine join_ (σ := Unit) 5 bz_5 (fun s_ => [(59, .string t402), (63, .string t403), (60, .string (t402 ++ (⟨#[32]⟩ : ByteArray))), (64, .string ((t402 ++ (⟨#[32]⟩ : ByteArray)) ++ t403)), (65, .string (((t402 ++ (⟨#[32]⟩ : ByteArray)) ++ t403) ++ (⟨#[32]⟩ : ByteArray)))]) (fun s_ w' => (w'.cell? ⟨gb401, 0, none⟩ = some (.int .i64 ((rd_T23 t396 x14_2).f0)) ∧ w'.cell? ⟨gb401, 1, none⟩ = some (.int .i64 ((rd_T23 t396 x14_2).f1)) ∧ w'.cell? ⟨gb401, 2, none⟩ = some (.int .u8 ((rd_T23 t396 x14_2).f2))) ∧ (Kd.R k23 23 w' w.heap.size (fun k_ => k_ ≠ gb401) (.slice (some ad400) t396.length co13) t396) ∧ (w'.heap[gb399]? = some (.cells #[.int .i64 0, .int .i64 0, .int .u8 43, .slice (some ad400) t396.length co13] 26 (0, 0))) ∧ (w'.heap[gb401]? = some (.cells #[.int .i64 ((rd_T23 t396 x14_2).f0), .int .i64 ((rd_T23 t396 x14_2).f1), .int .u8 ((rd_T23 t396 x14_2).f2)] 23 (0, 0))) ∧ (Below w.heap.size w w')) ?_ ?_
      ·as_aux_lemma =>
        clear HO_400003 BK399 BK401 HB
        rintro _ w35 ⟨hHeld, h0_, h1_, h2_, h3_⟩
        have HO_400003 := Aside0.mk h0_; have BK399 := Aside0.mk h1_; have BK401 := Aside0.mk h2_; have HB := Aside0.mk h3_; clear h0_ h1_ h2_ h3_
        refine norm_ (a' := ?_) ?_ ?_
        rotate_left
        ·simp only [putAll, Act.put, List.setIfInBounds_toArray, List.set_cons_zero, List.set_cons_succ]
         rfl
        refine one_ (i := 11) (N := some 68) bz_2 rfl rfl (one_of HT_.out (by kernel_rfl)) (by decide) (fun K hK => ?_)
        refine Kd.R_lit_step (Kd.int .u8) _ 5 ?hg (N := 68) ?hd (xs := ([(rd_T23 t396 x14_2).f2] : List Int)) (inner := [.int .u8 ((rd_T23 t396 x14_2).f2)]) (ok := fun _ => True) (okp := fun _ => True) ?hr ?hp (fun _ hk => hk) trivial (Below.refl _ _) (Nat.le_refl _) (by simp) ?_; (case hd => rfl); (case hg => rfl); (case hr => first | (go_simp; done) | (go_simp; rfl)); (case hp => exact (Reps.one (show Kd.M (Kd.int .u8) _ _ _ ((rd_T23 t396 x14_2).f2) [.int .u8 ((rd_T23 t396 x14_2).f2)] from rfl) (Reps.none _ _)))
        intro v405 w36 ho37 hb hg_ hnew_
        clear hg_ hnew_
        (first | rw [← Ny404.out] at ho37 | (simp only [Int.reduceToNat] at ho37; rw [← Ny404.out] at ho37))
        replace HO_400003 := Aside0.mk (Kd.R_below (ky_ HO_400003) hb)
        have HO406 := Aside0.mk (Kd.R_lower ho37 (below_size (bh_ HB)))
        replace BK399 := bb_ BK399 hb
        replace BK401 := bb_ BK401 hb
        replace HB := bs_ HB hb
        clear hb ho37
        refine hK.out _ _ (k3_ BK401) (fun hHeld => ?_)
        clear hK K
        refine nm_ 68 ?_
        exact nx_ (hJ2_6_11 (v405) _ ⟨hHeld, (ky_ HO406), (ky_ HO_400003), (bq_ BK399), (bq_ BK401), (bh_ HB)⟩)
      intro hJ2_6
      refine join_ (σ := Value) 7 bz_6 (fun s_ => [(59, .string t402), (68, s_), (60, .string (t402 ++ (⟨#[32]⟩ : ByteArray)))]) (fun s_ w' => (w'.cell? ⟨gb401, 0, none⟩ = some (.int .i64 ((rd_T23 t396 x14_2).f0)) ∧ w'.cell? ⟨gb401, 1, none⟩ = some (.int .i64 ((rd_T23 t396 x14_2).f1)) ∧ w'.cell? ⟨gb401, 2, none⟩ = some (.int .u8 ((rd_T23 t396 x14_2).f2))) ∧ (Kd.R (Kd.int .u8) 5 w' w.heap.size (fun _ => True) s_ y404) ∧ (Kd.R k23 23 w' w.heap.size (fun k_ => k_ ≠ gb401) (.slice (some ad400) t396.length co13) t396) ∧ (w'.heap[gb399]? = some (.cells #[.int .i64 0, .int .i64 0, .int .u8 43, .slice (some ad400) t396.length co13] 26 (0, 0))) ∧ (w'.heap[gb401]? = some (.cells #[.int .i64 ((rd_T23 t396 x14_2).f0), .int .i64 ((rd_T23 t396 x14_2).f1), .int .u8 ((rd_T23 t396 x14_2).f2)] 23 (0, 0))) ∧ (Below w.heap.size w w')) ?_ ?_
      ·as_aux_lemma =>
        clear HO_400003 BK399 BK401 HB
        rintro v405 w36 ⟨hHeld, h0_, h1_, h2_, h3_, h4_⟩
        have HO406 := Aside0.mk h0_; have HO_400003 := Aside0.mk h1_; have BK399 := Aside0.mk h2_; have BK401 := Aside0.mk h3_; have HB := Aside0.mk h4_; clear h0_ h1_ h2_ h3_ h4_
        refine norm_ (a' := ?_) ?_ ?_
        rotate_left
        ·simp only [putAll, Act.put, List.setIfInBounds_toArray, List.set_cons_zero, List.set_cons_succ]
         rfl
        refine two_ (i := 6) (j := 12) (Ni := some 63) (Nj := some 69) bz_7 bz_3 rfl rfl rfl rfl (two_of HT_.out (by kernel_rfl)) (by decide) (by decide) (fun K hK => ?_) (fun K hK => ?_)
        ·refine gq_ Tryz.func22 (by kernel_rfl) rfl #[.int .i64 ((rd_T23 t396 x14_2).f1)] (by rfl) rfl rfl ?_
         with_reducible refine (num_Dec.calls ((rd_T23 t396 x14_2).f1) t403 _ A20.out ?tb10_).mono ?_
         (case tb10_ => exact tb_ HTAB HB)
         rintro e w37 ⟨rfl, hb⟩
         refine ⟨_, rfl, ?_⟩
         replace HO_400003 := Aside0.mk (Kd.R_below (ky_ HO_400003) hb)
         replace HO406 := Aside0.mk (Kd.R_below (ky_ HO406) hb)
         replace BK399 := bb_ BK399 hb
         replace BK401 := bb_ BK401 hb
         replace HB := bs_ HB hb
         (try clear hb)
         refine hK.out _ _ (k3_ BK401) (fun hHeld => ?_)
         clear hK K
         refine nm_ 63 ?_
         refine pu_ 7 64 (lb_ 16 3839) rfl rfl (ao_ HT_) ?_
         refine pu_ 8 65 (lb_ 16 4095) rfl rfl (ao_ HT_) ?_
         exact nx_ (hJ2_6_11 (v405) _ ⟨hHeld, (ky_ HO406), (ky_ HO_400003), (bq_ BK399), (bq_ BK401), (bh_ HB)⟩)
        skip
        have hcv37 := own_string (P := Tryz.prog) Tryz.underlying39 Tryz.underlying5 Tryz.underlying9 (Kd.own_of_R HO406.out)
        refine value_ (w1 := ?_) (v := ?_) (by rfl) rfl ?_ ?_
        rotate_left 2
        ·go_simp
         constructor
         ·rfl
         rfl
        clear hcv37
        refine hK.out _ _ (k3_ BK401) (fun hHeld => ?_)
        clear hK K
        refine nm_ 69 ?_
        exact nx_ (hJ2_11_12 (v405) _ ⟨hHeld, (ky_ HO406), (ky_ HO_400003), (bq_ BK399), (bq_ BK401), (bh_ HB)⟩)
      intro hJ2_11
      refine join_ (σ := Value) 8 bz_8 (fun s_ => [(68, s_), (69, .string (strOfNums y404))]) (fun s_ w' => (w'.cell? ⟨gb401, 0, none⟩ = some (.int .i64 ((rd_T23 t396 x14_2).f0)) ∧ w'.cell? ⟨gb401, 1, none⟩ = some (.int .i64 ((rd_T23 t396 x14_2).f1)) ∧ w'.cell? ⟨gb401, 2, none⟩ = some (.int .u8 ((rd_T23 t396 x14_2).f2))) ∧ (Kd.R (Kd.int .u8) 5 w' w.heap.size (fun _ => True) s_ y404) ∧ (Kd.R k23 23 w' w.heap.size (fun k_ => k_ ≠ gb401) (.slice (some ad400) t396.length co13) t396) ∧ (w'.heap[gb399]? = some (.cells #[.int .i64 0, .int .i64 0, .int .u8 43, .slice (some ad400) t396.length co13] 26 (0, 0))) ∧ (w'.heap[gb401]? = some (.cells #[.int .i64 ((rd_T23 t396 x14_2).f0), .int .i64 ((rd_T23 t396 x14_2).f1), .int .u8 ((rd_T23 t396 x14_2).f2)] 23 (0, 0))) ∧ (Below w.heap.size w w')) ?_ ?_
      ·as_aux_lemma =>
        clear HO_400003 BK399 BK401 HB
        rintro v405 w36 ⟨hHeld, h0_, h1_, h2_, h3_, h4_⟩
        have HO406 := Aside0.mk h0_; have HO_400003 := Aside0.mk h1_; have BK399 := Aside0.mk h2_; have BK401 := Aside0.mk h3_; have HB := Aside0.mk h4_; clear h0_ h1_ h2_ h3_ h4_
        refine norm_ (a' := ?_) ?_ ?_
        rotate_left
        ·simp only [putAll, Act.put, List.setIfInBounds_toArray, List.set_cons_zero, List.set_cons_succ]
         rfl
        refine one_ (i := 2) (N := some 59) bz_9 rfl rfl (one_of HT_.out (by kernel_rfl)) (by decide) (fun K hK => ?_)
        refine gq_ Tryz.func22 (by kernel_rfl) rfl #[.int .i64 ((rd_T23 t396 x14_2).f0)] (by rfl) rfl rfl ?_
        with_reducible refine (num_Dec.calls ((rd_T23 t396 x14_2).f0) t402 _ A18.out ?tb8_).mono ?_
        (case tb8_ => exact tb_ HTAB HB)
        rintro e w37 ⟨rfl, hb⟩
        refine ⟨_, rfl, ?_⟩
        replace HO_400003 := Aside0.mk (Kd.R_below (ky_ HO_400003) hb)
        replace HO406 := Aside0.mk (Kd.R_below (ky_ HO406) hb)
        replace BK399 := bb_ BK399 hb
        replace BK401 := bb_ BK401 hb
        replace HB := bs_ HB hb
        (try clear hb)
        refine hK.out _ _ (k3_ BK401) (fun hHeld => ?_)
        clear hK K
        refine nm_ 59 ?_
        refine pu_ 3 60 (lb_ 16 7743) rfl rfl (ao_ HT_) ?_
        exact nx_ (hJ2_11_12 (v405) _ ⟨hHeld, (ky_ HO406), (ky_ HO_400003), (bq_ BK399), (bq_ BK401), (bh_ HB)⟩)
      intro hJ11_12
      refine join_ (σ := Unit) 8 bz_10 (fun s_ => [(59, .string t402), (60, .string (t402 ++ (⟨#[32]⟩ : ByteArray)))]) (fun s_ w' => (w'.cell? ⟨gb401, 0, none⟩ = some (.int .i64 ((rd_T23 t396 x14_2).f0)) ∧ w'.cell? ⟨gb401, 1, none⟩ = some (.int .i64 ((rd_T23 t396 x14_2).f1)) ∧ w'.cell? ⟨gb401, 2, none⟩ = some (.int .u8 ((rd_T23 t396 x14_2).f2))) ∧ (Kd.R k23 23 w' w.heap.size (fun k_ => k_ ≠ gb401) (.slice (some ad400) t396.length co13) t396) ∧ (w'.heap[gb399]? = some (.cells #[.int .i64 0, .int .i64 0, .int .u8 43, .slice (some ad400) t396.length co13] 26 (0, 0))) ∧ (w'.heap[gb401]? = some (.cells #[.int .i64 ((rd_T23 t396 x14_2).f0), .int .i64 ((rd_T23 t396 x14_2).f1), .int .u8 ((rd_T23 t396 x14_2).f2)] 23 (0, 0))) ∧ (Below w.heap.size w w')) ?_ ?_
      ·as_aux_lemma =>
        clear HO_400003 BK399 BK401 HB
        rintro _ w34 ⟨hHeld, h0_, h1_, h2_, h3_⟩
        have HO_400003 := Aside0.mk h0_; have BK399 := Aside0.mk h1_; have BK401 := Aside0.mk h2_; have HB := Aside0.mk h3_; clear h0_ h1_ h2_ h3_
        refine norm_ (a' := ?_) ?_ ?_
        rotate_left
        ·simp only [putAll, Act.put, List.setIfInBounds_toArray, List.set_cons_zero, List.set_cons_succ]
         rfl
        refine two_ (i := 6) (j := 11) (Ni := some 63) (Nj := some 68) bz_11 bz_6 rfl rfl rfl rfl (two_of HT_.out (by kernel_rfl)) (by decide) (by decide) (fun K hK => ?_) (fun K hK => ?_)
        ·refine gq_ Tryz.func22 (by kernel_rfl) rfl #[.int .i64 ((rd_T23 t396 x14_2).f1)] (by rfl) rfl rfl ?_
         with_reducible refine (num_Dec.calls ((rd_T23 t396 x14_2).f1) t403 _ A20.out ?tb6_).mono ?_
         (case tb6_ => exact tb_ HTAB HB)
         rintro e w35 ⟨rfl, hb⟩
         refine ⟨_, rfl, ?_⟩
         replace HO_400003 := Aside0.mk (Kd.R_below (ky_ HO_400003) hb)
         replace BK399 := bb_ BK399 hb
         replace BK401 := bb_ BK401 hb
         replace HB := bs_ HB hb
         (try clear hb)
         refine hK.out _ _ (k3_ BK401) (fun hHeld => ?_)
         clear hK K
         refine nm_ 63 ?_
         refine pu_ 7 64 (lb_ 16 1791) rfl rfl (ao_ HT_) ?_
         refine pu_ 8 65 (lb_ 16 2047) rfl rfl (ao_ HT_) ?_
         exact nx_ (hJ2_6 () _ ⟨hHeld, (ky_ HO_400003), (bq_ BK399), (bq_ BK401), (bh_ HB)⟩)
        skip
        refine Kd.R_lit_step (Kd.int .u8) _ 5 ?hg (N := 68) ?hd (xs := ([(rd_T23 t396 x14_2).f2] : List Int)) (inner := [.int .u8 ((rd_T23 t396 x14_2).f2)]) (ok := fun _ => True) (okp := fun _ => True) ?hr ?hp (fun _ hk => hk) trivial (Below.refl _ _) (Nat.le_refl _) (by simp) ?_; (case hd => rfl); (case hg => rfl); (case hr => first | (go_simp; done) | (go_simp; rfl)); (case hp => exact (Reps.one (show Kd.M (Kd.int .u8) _ _ _ ((rd_T23 t396 x14_2).f2) [.int .u8 ((rd_T23 t396 x14_2).f2)] from rfl) (Reps.none _ _)))
        intro v405 w35 ho36 hb hg_ hnew_
        clear hg_ hnew_
        (first | rw [← Ny404.out] at ho36 | (simp only [Int.reduceToNat] at ho36; rw [← Ny404.out] at ho36))
        replace HO_400003 := Aside0.mk (Kd.R_below (ky_ HO_400003) hb)
        have HO406 := Aside0.mk (Kd.R_lower ho36 (below_size (bh_ HB)))
        replace BK399 := bb_ BK399 hb
        replace BK401 := bb_ BK401 hb
        replace HB := bs_ HB hb
        clear hb ho36
        refine hK.out _ _ (k3_ BK401) (fun hHeld => ?_)
        clear hK K
        refine nm_ 68 ?_
        exact nx_ (hJ2_11 (v405) _ ⟨hHeld, (ky_ HO406), (ky_ HO_400003), (bq_ BK399), (bq_ BK401), (bh_ HB)⟩)
      intro hJ2
      refine join_ (σ := Value) 9 bz_12 (fun s_ => [(68, s_)]) (fun s_ w' => (w'.cell? ⟨gb401, 0, none⟩ = some (.int .i64 ((rd_T23 t396 x14_2).f0)) ∧ w'.cell? ⟨gb401, 1, none⟩ = some (.int .i64 ((rd_T23 t396 x14_2).f1)) ∧ w'.cell? ⟨gb401, 2, none⟩ = some (.int .u8 ((rd_T23 t396 x14_2).f2))) ∧ (Kd.R (Kd.int .u8) 5 w' w.heap.size (fun _ => True) s_ y404) ∧ (Kd.R k23 23 w' w.heap.size (fun k_ => k_ ≠ gb401) (.slice (some ad400) t396.length co13) t396) ∧ (w'.heap[gb399]? = some (.cells #[.int .i64 0, .int .i64 0, .int .u8 43, .slice (some ad400) t396.length co13] 26 (0, 0))) ∧ (w'.heap[gb401]? = some (.cells #[.int .i64 ((rd_T23 t396 x14_2).f0), .int .i64 ((rd_T23 t396 x14_2).f1), .int .u8 ((rd_T23 t396 x14_2).f2)] 23 (0, 0))) ∧ (Below w.heap.size w w')) ?_ ?_
      ·as_aux_lemma =>
        clear HO_400003 BK399 BK401 HB
        rintro v405 w35 ⟨hHeld, h0_, h1_, h2_, h3_, h4_⟩
        have HO406 := Aside0.mk h0_; have HO_400003 := Aside0.mk h1_; have BK399 := Aside0.mk h2_; have BK401 := Aside0.mk h3_; have HB := Aside0.mk h4_; clear h0_ h1_ h2_ h3_ h4_
        refine norm_ (a' := ?_) ?_ ?_
        rotate_left
        ·simp only [putAll, Act.put, List.setIfInBounds_toArray, List.set_cons_zero, List.set_cons_succ]
         rfl
        refine two_ (i := 2) (j := 12) (Ni := some 59) (Nj := some 69) bz_13 bz_8 rfl rfl rfl rfl (two_of HT_.out (by kernel_rfl)) (by decide) (by decide) (fun K hK => ?_) (fun K hK => ?_)
        ·refine gq_ Tryz.func22 (by kernel_rfl) rfl #[.int .i64 ((rd_T23 t396 x14_2).f0)] (by rfl) rfl rfl ?_
         with_reducible refine (num_Dec.calls ((rd_T23 t396 x14_2).f0) t402 _ A18.out ?tb4_).mono ?_
         (case tb4_ => exact tb_ HTAB HB)
         rintro e w36 ⟨rfl, hb⟩
         refine ⟨_, rfl, ?_⟩
         replace HO_400003 := Aside0.mk (Kd.R_below (ky_ HO_400003) hb)
         replace HO406 := Aside0.mk (Kd.R_below (ky_ HO406) hb)
         replace BK399 := bb_ BK399 hb
         replace BK401 := bb_ BK401 hb
         replace HB := bs_ HB hb
         (try clear hb)
         refine hK.out _ _ (k3_ BK401) (fun hHeld => ?_)
         clear hK K
         refine nm_ 59 ?_
         refine pu_ 3 60 (lb_ 16 3647) rfl rfl (ao_ HT_) ?_
         exact nx_ (hJ2_11 (v405) _ ⟨hHeld, (ky_ HO406), (ky_ HO_400003), (bq_ BK399), (bq_ BK401), (bh_ HB)⟩)
        skip
        have hcv36 := own_string (P := Tryz.prog) Tryz.underlying39 Tryz.underlying5 Tryz.underlying9 (Kd.own_of_R HO406.out)
        refine value_ (w1 := ?_) (v := ?_) (by rfl) rfl ?_ ?_
        rotate_left 2
        ·go_simp
         constructor
         ·rfl
         rfl
        clear hcv36
        refine hK.out _ _ (k3_ BK401) (fun hHeld => ?_)
        clear hK K
        refine nm_ 69 ?_
        exact nx_ (hJ11_12 (v405) _ ⟨hHeld, (ky_ HO406), (ky_ HO_400003), (bq_ BK399), (bq_ BK401), (bh_ HB)⟩)
      intro hJ11
      refine two_ (i := 2) (j := 11) (Ni := some 59) (Nj := some 68) bz_14 bz_12 rfl rfl rfl rfl (two_of HT_.out (by kernel_rfl)) (by decide) (by decide) (fun K hK => ?_) (fun K hK => ?_)
      ·refine gq_ Tryz.func22 (by kernel_rfl) rfl #[.int .i64 ((rd_T23 t396 x14_2).f0)] (by rfl) rfl rfl ?_
       with_reducible refine (num_Dec.calls ((rd_T23 t396 x14_2).f0) t402 _ A18.out ?tb2_).mono ?_
       (case tb2_ => exact tb_ HTAB HB)
       rintro e w33 ⟨rfl, hb⟩
       refine ⟨_, rfl, ?_⟩
       replace HO_400003 := Aside0.mk (Kd.R_below (ky_ HO_400003) hb)
       replace BK399 := bb_ BK399 hb
       replace BK401 := bb_ BK401 hb
       replace HB := bs_ HB hb
       (try clear hb)
       refine hK.out _ _ (k3_ BK401) (fun hHeld => ?_)
       clear hK K
       refine nm_ 59 ?_
       refine pu_ 3 60 (lb_ 16 1599) rfl rfl (ao_ HT_) ?_
       exact nx_ (hJ2 () _ ⟨hHeld, (ky_ HO_400003), (bq_ BK399), (bq_ BK401), (bh_ HB)⟩)
      skip
      refine Kd.R_lit_step (Kd.int .u8) _ 5 ?hg (N := 68) ?hd (xs := ([(rd_T23 t396 x14_2).f2] : List Int)) (inner := [.int .u8 ((rd_T23 t396 x14_2).f2)]) (ok := fun _ => True) (okp := fun _ => True) ?hr ?hp (fun _ hk => hk) trivial (Below.refl _ _) (Nat.le_refl _) (by simp) ?_; (case hd => rfl); (case hg => rfl); (case hr => first | (go_simp; done) | (go_simp; rfl)); (case hp => exact (Reps.one (show Kd.M (Kd.int .u8) _ _ _ ((rd_T23 t396 x14_2).f2) [.int .u8 ((rd_T23 t396 x14_2).f2)] from rfl) (Reps.none _ _)))
      intro v405 w33 ho34 hb hg_ hnew_
      clear hg_ hnew_
      (first | rw [← Ny404.out] at ho34 | (simp only [Int.reduceToNat] at ho34; rw [← Ny404.out] at ho34))
      replace HO_400003 := Aside0.mk (Kd.R_below (ky_ HO_400003) hb)
      have HO406 := Aside0.mk (Kd.R_lower ho34 (below_size (bh_ HB)))
      replace BK399 := bb_ BK399 hb
      replace BK401 := bb_ BK401 hb
      replace HB := bs_ HB hb
      clear hb ho34
      refine hK.out _ _ (k3_ BK401) (fun hHeld => ?_)
      clear hK K
      refine nm_ 68 ?_
      exact nx_ (hJ11 (v405) _ ⟨hHeld, (ky_ HO406), (ky_ HO_400003), (bq_ BK399), (bq_ BK401), (bh_ HB)⟩)
     clear HO_400003 BK399 BK401 HB
     rintro v405 w38 ⟨hHeld, h0_, h1_, h2_, h3_, h4_⟩
     have HO406 := Aside0.mk h0_; have HO_400003 := Aside0.mk h1_; have BK399 := Aside0.mk h2_; have BK401 := Aside0.mk h3_; have HB := Aside0.mk h4_; clear h0_ h1_ h2_ h3_ h4_
     refine norm_ (a' := ?_) ?_ ?_
     rotate_left
     ·simp only [putAll, Act.put, List.setIfInBounds_toArray, List.set_cons_zero, List.set_cons_succ]
      rfl
     refine pu_ 13 70 (lb_ 16 16383) rfl rfl (ao_ HT_) ?_
     refine pu_ 14 71 (lb_ 16 32767) rfl rfl (ao_ HT_) ?_
     refine pu_ 15 16 (lb_ 16 65535) rfl rfl (ao_ HT_) ?_
     refine done_ (done_of HT_.out (by kernel_rfl)) ?_
     obtain ⟨hcz39_0, hcz39_1, hcz39_2, hfz39_0, hfz39_1, hfz39_2⟩ := c3_ BK401
     go_upto_if 83 with (fail)
     go_cut [16] (fun v16 wc => ∃ (kq : Nat) (x16_25 : ByteArray), v16 = .string x16_25 ∧ Aside0 (salvorlaw17_MapParts.j2 kq a3 (Int.tmod (wrap64 (a2)) (t396.length : Int)) x12_2 x13_2 x14_2 x16_25 0 0 43 t396 ((rd_T23 t396 x14_2).f0) ((rd_T23 t396 x14_2).f1) ((rd_T23 t396 x14_2).f2) = some r) ∧ Aside0 (kq ≤ k2) ∧ Aside0 (Kd.R k23 23 wc w.heap.size (fun k_ => k_ ≠ gb401) (.slice (some ad400) t396.length co13) t396) ∧ Aside0 (wc.heap[gb399]? = some (.cells #[.int .i64 0, .int .i64 0, .int .u8 43, (.slice (some ad400) t396.length co13)] 26 (0, 0))) ∧ Aside0 (wc.heap[gb401]? = some (.cells #[.int .i64 ((rd_T23 t396 x14_2).f0), .int .i64 ((rd_T23 t396 x14_2).f1), .int .u8 ((rd_T23 t396 x14_2).f2)] 23 (0, 0))) ∧ Aside0 (Below w.heap.size w wc))
     case first =>
      have H := HC26.out
      clear HC26
      by_cases c40 : ((rd_T23 t396 x14_2).f1) > 1
      rotate_left
      ·rw [if_neg c40] at H
       have c40b0 : decide (1 < ((rd_T23 t396 x14_2).f1)) = false := decide_eq_false c40
       clear c40
       (first | rw [c40b0] | (simp only [i64_w, i32_w]; rw [c40b0]) | skip)
       have H' := Aside0.mk H
       clear H
       go_wp2
       go_meet
       case rel => exact ⟨_, (((((t402 ++ (⟨#[32]⟩ : ByteArray)) ++ t403) ++ (⟨#[32]⟩ : ByteArray)) ++ (strOfNums y404)) ++ (⟨#[10]⟩ : ByteArray)), (by first | rfl | (simp; done) | (simp [*]; done)), H', ⟨by have := HJ4.out; have := HK2.out; first | omega | exact Nat.le_refl _⟩, ⟨by (with_reducible repeat (first | apply Kd.R_alloc | apply Kd.R_drewN | apply Kd.R_drew)); exact HO_400003.out⟩, ⟨bq_ BK399⟩, ⟨bq_ BK401⟩, ⟨bh_ HB⟩⟩
      rw [if_pos c40] at H
      have c40b0 : decide (1 < ((rd_T23 t396 x14_2).f1)) = true := decide_eq_true c40
      clear c40
      (first | rw [c40b0] | (simp only [i64_w, i32_w]; rw [c40b0]) | skip)
      replace H := Option.bind_eq_some_iff.mp H
      obtain ⟨t407, A410, H⟩ := H
      have A41 := Aside0.mk A410
      clear A410
      by_cases c42 : t407.size + 3 ≤ 9223372036854775807
      rotate_left
      ·rw [if_neg c42] at H
       exact absurd H (by simp)
      rw [if_pos c42] at H
      have c42b0 := eq_true c42
      have c42b1 : decide (t407.size + 3 ≤ 9223372036854775807) = true := decide_eq_true c42
      try have c42b2 : (9223372036854775807 < t407.size + 3) = False := eq_false (Nat.not_lt.2 c42)
      obtain ⟨y408, hy408⟩ : ∃ y_ : List Int, y_ = (([(rd_T23 t396 x14_2).f2] : List Int)) := ⟨_, rfl⟩
      replace H : (if (t407 ++ (⟨#[32, 49, 32]⟩ : ByteArray)).size + (strOfNums y408).size ≤ 9223372036854775807 then (if ((t407 ++ (⟨#[32, 49, 32]⟩ : ByteArray)) ++ (strOfNums y408)).size + 1 ≤ 9223372036854775807 then ((num_Dec.f (wrap64 (((rd_T23 t396 x14_2).f0) + 1))).bind fun t411 => (if (((t407 ++ (⟨#[32, 49, 32]⟩ : ByteArray)) ++ (strOfNums y408)) ++ (⟨#[10]⟩ : ByteArray)).size + t411.size ≤ 9223372036854775807 then (if ((((t407 ++ (⟨#[32, 49, 32]⟩ : ByteArray)) ++ (strOfNums y408)) ++ (⟨#[10]⟩ : ByteArray)) ++ t411).size + 1 ≤ 9223372036854775807 then ((num_Dec.f (wrap64 (((rd_T23 t396 x14_2).f1) - 1))).bind fun t412 => (if (((((t407 ++ (⟨#[32, 49, 32]⟩ : ByteArray)) ++ (strOfNums y408)) ++ (⟨#[10]⟩ : ByteArray)) ++ t411) ++ (⟨#[32]⟩ : ByteArray)).size + t412.size ≤ 9223372036854775807 then (if ((((((t407 ++ (⟨#[32, 49, 32]⟩ : ByteArray)) ++ (strOfNums y408)) ++ (⟨#[10]⟩ : ByteArray)) ++ t411) ++ (⟨#[32]⟩ : ByteArray)) ++ t412).size + 1 ≤ 9223372036854775807 then ((some (([(rd_T23 t396 x14_2).f2] : List Int) : List Int)).bind fun y413 => (if (((((((t407 ++ (⟨#[32, 49, 32]⟩ : ByteArray)) ++ (strOfNums y408)) ++ (⟨#[10]⟩ : ByteArray)) ++ t411) ++ (⟨#[32]⟩ : ByteArray)) ++ t412) ++ (⟨#[32]⟩ : ByteArray)).size + (strOfNums y413).size ≤ 9223372036854775807 then (if ((((((((t407 ++ (⟨#[32, 49, 32]⟩ : ByteArray)) ++ (strOfNums y408)) ++ (⟨#[10]⟩ : ByteArray)) ++ t411) ++ (⟨#[32]⟩ : ByteArray)) ++ t412) ++ (⟨#[32]⟩ : ByteArray)) ++ (strOfNums y413)).size + 1 ≤ 9223372036854775807 then (salvorlaw17_MapParts.j2 k2 a3 (Int.tmod (wrap64 (a2)) (t396.length : Int)) x12_2 x13_2 x14_2 (((((((((t407 ++ (⟨#[32, 49, 32]⟩ : ByteArray)) ++ (strOfNums y408)) ++ (⟨#[10]⟩ : ByteArray)) ++ t411) ++ (⟨#[32]⟩ : ByteArray)) ++ t412) ++ (⟨#[32]⟩ : ByteArray)) ++ (strOfNums y413)) ++ (⟨#[10]⟩ : ByteArray)) 0 0 43 t396 ((rd_T23 t396 x14_2).f0) ((rd_T23 t396 x14_2).f1) ((rd_T23 t396 x14_2).f2)) else (none)) else (none))) else (none)) else (none))) else (none)) else (none))) else (none)) else (none)) = some r := by first | (rw [hy408]; with_reducible exact H) | (have H2_ := (Option.bind_some _ _).symm.trans H; rw [hy408]; with_reducible exact H2_) | (have H2_ := (Option.bind_some _ _).symm.trans H; with_reducible exact H2_) | with_reducible exact H | (rw [hy408]; exact H) | exact H
      have Ny408 := Aside0.mk hy408
      clear hy408
      by_cases c43 : (t407 ++ (⟨#[32, 49, 32]⟩ : ByteArray)).size + (strOfNums y408).size ≤ 9223372036854775807
      rotate_left
      ·rw [if_neg c43] at H
       exact absurd H (by simp)
      rw [if_pos c43] at H
      have c43b0 := eq_true c43
      have c43b1 : decide ((t407 ++ (⟨#[32, 49, 32]⟩ : ByteArray)).size + (strOfNums y408).size ≤ 9223372036854775807) = true := decide_eq_true c43
      try have c43b2 : (9223372036854775807 < (t407 ++ (⟨#[32, 49, 32]⟩ : ByteArray)).size + (strOfNums y408).size) = False := eq_false (Nat.not_lt.2 c43)
      try have c43b3 : (9223372036854775807 < t407.size + 3 + (strOfNums y408).size) = False := eq_false (Nat.not_lt.2 (by have h_ := c43; simp only [ByteArray.size_append] at h_; exact h_))
      by_cases c44 : ((t407 ++ (⟨#[32, 49, 32]⟩ : ByteArray)) ++ (strOfNums y408)).size + 1 ≤ 9223372036854775807
      rotate_left
      ·rw [if_neg c44] at H
       exact absurd H (by simp)
      rw [if_pos c44] at H
      have c44b0 := eq_true c44
      have c44b1 : decide (((t407 ++ (⟨#[32, 49, 32]⟩ : ByteArray)) ++ (strOfNums y408)).size + 1 ≤ 9223372036854775807) = true := decide_eq_true c44
      try have c44b2 : (9223372036854775807 < ((t407 ++ (⟨#[32, 49, 32]⟩ : ByteArray)) ++ (strOfNums y408)).size + 1) = False := eq_false (Nat.not_lt.2 c44)
      try have c44b3 : (9223372036854775807 < t407.size + 3 + (strOfNums y408).size + 1) = False := eq_false (Nat.not_lt.2 (by have h_ := c44; simp only [ByteArray.size_append] at h_; exact h_))
      replace H := Option.bind_eq_some_iff.mp H
      obtain ⟨t411, A450, H⟩ := H
      have A45 := Aside0.mk A450
      clear A450
      by_cases c46 : (((t407 ++ (⟨#[32, 49, 32]⟩ : ByteArray)) ++ (strOfNums y408)) ++ (⟨#[10]⟩ : ByteArray)).size + t411.size ≤ 9223372036854775807
      rotate_left
      ·rw [if_neg c46] at H
       exact absurd H (by simp)
      rw [if_pos c46] at H
      have c46b0 := eq_true c46
      have c46b1 : decide ((((t407 ++ (⟨#[32, 49, 32]⟩ : ByteArray)) ++ (strOfNums y408)) ++ (⟨#[10]⟩ : ByteArray)).size + t411.size ≤ 9223372036854775807) = true := decide_eq_true c46
      try have c46b2 : (9223372036854775807 < (((t407 ++ (⟨#[32, 49, 32]⟩ : ByteArray)) ++ (strOfNums y408)) ++ (⟨#[10]⟩ : ByteArray)).size + t411.size) = False := eq_false (Nat.not_lt.2 c46)
      try have c46b3 : (9223372036854775807 < t407.size + 3 + (strOfNums y408).size + 1 + t411.size) = False := eq_false (Nat.not_lt.2 (by have h_ := c46; simp only [ByteArray.size_append] at h_; exact h_))
      by_cases c47 : ((((t407 ++ (⟨#[32, 49, 32]⟩ : ByteArray)) ++ (strOfNums y408)) ++ (⟨#[10]⟩ : ByteArray)) ++ t411).size + 1 ≤ 9223372036854775807
      rotate_left
      ·rw [if_neg c47] at H
       exact absurd H (by simp)
      rw [if_pos c47] at H
      have c47b0 := eq_true c47
      have c47b1 : decide (((((t407 ++ (⟨#[32, 49, 32]⟩ : ByteArray)) ++ (strOfNums y408)) ++ (⟨#[10]⟩ : ByteArray)) ++ t411).size + 1 ≤ 9223372036854775807) = true := decide_eq_true c47
      try have c47b2 : (9223372036854775807 < ((((t407 ++ (⟨#[32, 49, 32]⟩ : ByteArray)) ++ (strOfNums y408)) ++ (⟨#[10]⟩ : ByteArray)) ++ t411).size + 1) = False := eq_false (Nat.not_lt.2 c47)
      try have c47b3 : (9223372036854775807 < t407.size + 3 + (strOfNums y408).size + 1 + t411.size + 1) = False := eq_false (Nat.not_lt.2 (by have h_ := c47; simp only [ByteArray.size_append] at h_; exact h_))
      replace H := Option.bind_eq_some_iff.mp H
      obtain ⟨t412, A480, H⟩ := H
      have A48 := Aside0.mk A480
      clear A480
      by_cases c49 : (((((t407 ++ (⟨#[32, 49, 32]⟩ : ByteArray)) ++ (strOfNums y408)) ++ (⟨#[10]⟩ : ByteArray)) ++ t411) ++ (⟨#[32]⟩ : ByteArray)).size + t412.size ≤ 9223372036854775807
      rotate_left
      ·rw [if_neg c49] at H
       exact absurd H (by simp)
      rw [if_pos c49] at H
      have c49b0 := eq_true c49
      have c49b1 : decide ((((((t407 ++ (⟨#[32, 49, 32]⟩ : ByteArray)) ++ (strOfNums y408)) ++ (⟨#[10]⟩ : ByteArray)) ++ t411) ++ (⟨#[32]⟩ : ByteArray)).size + t412.size ≤ 9223372036854775807) = true := decide_eq_true c49
      try have c49b2 : (9223372036854775807 < (((((t407 ++ (⟨#[32, 49, 32]⟩ : ByteArray)) ++ (strOfNums y408)) ++ (⟨#[10]⟩ : ByteArray)) ++ t411) ++ (⟨#[32]⟩ : ByteArray)).size + t412.size) = False := eq_false (Nat.not_lt.2 c49)
      try have c49b3 : (9223372036854775807 < t407.size + 3 + (strOfNums y408).size + 1 + t411.size + 1 + t412.size) = False := eq_false (Nat.not_lt.2 (by have h_ := c49; simp only [ByteArray.size_append] at h_; exact h_))
      by_cases c50 : ((((((t407 ++ (⟨#[32, 49, 32]⟩ : ByteArray)) ++ (strOfNums y408)) ++ (⟨#[10]⟩ : ByteArray)) ++ t411) ++ (⟨#[32]⟩ : ByteArray)) ++ t412).size + 1 ≤ 9223372036854775807
      rotate_left
      ·rw [if_neg c50] at H
       exact absurd H (by simp)
      rw [if_pos c50] at H
      have c50b0 := eq_true c50
      have c50b1 : decide (((((((t407 ++ (⟨#[32, 49, 32]⟩ : ByteArray)) ++ (strOfNums y408)) ++ (⟨#[10]⟩ : ByteArray)) ++ t411) ++ (⟨#[32]⟩ : ByteArray)) ++ t412).size + 1 ≤ 9223372036854775807) = true := decide_eq_true c50
      try have c50b2 : (9223372036854775807 < ((((((t407 ++ (⟨#[32, 49, 32]⟩ : ByteArray)) ++ (strOfNums y408)) ++ (⟨#[10]⟩ : ByteArray)) ++ t411) ++ (⟨#[32]⟩ : ByteArray)) ++ t412).size + 1) = False := eq_false (Nat.not_lt.2 c50)
      try have c50b3 : (9223372036854775807 < t407.size + 3 + (strOfNums y408).size + 1 + t411.size + 1 + t412.size + 1) = False := eq_false (Nat.not_lt.2 (by have h_ := c50; simp only [ByteArray.size_append] at h_; exact h_))
      obtain ⟨y413, hy413⟩ : ∃ y_ : List Int, y_ = (([(rd_T23 t396 x14_2).f2] : List Int)) := ⟨_, rfl⟩
      replace H : (if (((((((t407 ++ (⟨#[32, 49, 32]⟩ : ByteArray)) ++ (strOfNums y408)) ++ (⟨#[10]⟩ : ByteArray)) ++ t411) ++ (⟨#[32]⟩ : ByteArray)) ++ t412) ++ (⟨#[32]⟩ : ByteArray)).size + (strOfNums y413).size ≤ 9223372036854775807 then (if ((((((((t407 ++ (⟨#[32, 49, 32]⟩ : ByteArray)) ++ (strOfNums y408)) ++ (⟨#[10]⟩ : ByteArray)) ++ t411) ++ (⟨#[32]⟩ : ByteArray)) ++ t412) ++ (⟨#[32]⟩ : ByteArray)) ++ (strOfNums y413)).size + 1 ≤ 9223372036854775807 then (salvorlaw17_MapParts.j2 k2 a3 (Int.tmod (wrap64 (a2)) (t396.length : Int)) x12_2 x13_2 x14_2 (((((((((t407 ++ (⟨#[32, 49, 32]⟩ : ByteArray)) ++ (strOfNums y408)) ++ (⟨#[10]⟩ : ByteArray)) ++ t411) ++ (⟨#[32]⟩ : ByteArray)) ++ t412) ++ (⟨#[32]⟩ : ByteArray)) ++ (strOfNums y413)) ++ (⟨#[10]⟩ : ByteArray)) 0 0 43 t396 ((rd_T23 t396 x14_2).f0) ((rd_T23 t396 x14_2).f1) ((rd_T23 t396 x14_2).f2)) else (none)) else (none)) = some r := by first | (rw [hy413]; with_reducible exact H) | (have H2_ := (Option.bind_some _ _).symm.trans H; rw [hy413]; with_reducible exact H2_) | (have H2_ := (Option.bind_some _ _).symm.trans H; with_reducible exact H2_) | with_reducible exact H | (rw [hy413]; exact H) | exact H
      have Ny413 := Aside0.mk hy413
      clear hy413
      by_cases c51 : (((((((t407 ++ (⟨#[32, 49, 32]⟩ : ByteArray)) ++ (strOfNums y408)) ++ (⟨#[10]⟩ : ByteArray)) ++ t411) ++ (⟨#[32]⟩ : ByteArray)) ++ t412) ++ (⟨#[32]⟩ : ByteArray)).size + (strOfNums y413).size ≤ 9223372036854775807
      rotate_left
      ·rw [if_neg c51] at H
       exact absurd H (by simp)
      rw [if_pos c51] at H
      have c51b0 := eq_true c51
      have c51b1 : decide ((((((((t407 ++ (⟨#[32, 49, 32]⟩ : ByteArray)) ++ (strOfNums y408)) ++ (⟨#[10]⟩ : ByteArray)) ++ t411) ++ (⟨#[32]⟩ : ByteArray)) ++ t412) ++ (⟨#[32]⟩ : ByteArray)).size + (strOfNums y413).size ≤ 9223372036854775807) = true := decide_eq_true c51
      try have c51b2 : (9223372036854775807 < (((((((t407 ++ (⟨#[32, 49, 32]⟩ : ByteArray)) ++ (strOfNums y408)) ++ (⟨#[10]⟩ : ByteArray)) ++ t411) ++ (⟨#[32]⟩ : ByteArray)) ++ t412) ++ (⟨#[32]⟩ : ByteArray)).size + (strOfNums y413).size) = False := eq_false (Nat.not_lt.2 c51)
      try have c51b3 : (9223372036854775807 < t407.size + 3 + (strOfNums y408).size + 1 + t411.size + 1 + t412.size + 1 + (strOfNums y413).size) = False := eq_false (Nat.not_lt.2 (by have h_ := c51; simp only [ByteArray.size_append] at h_; exact h_))
      by_cases c52 : ((((((((t407 ++ (⟨#[32, 49, 32]⟩ : ByteArray)) ++ (strOfNums y408)) ++ (⟨#[10]⟩ : ByteArray)) ++ t411) ++ (⟨#[32]⟩ : ByteArray)) ++ t412) ++ (⟨#[32]⟩ : ByteArray)) ++ (strOfNums y413)).size + 1 ≤ 9223372036854775807
      rotate_left
      ·rw [if_neg c52] at H
       exact absurd H (by simp)
      rw [if_pos c52] at H
      have c52b0 := eq_true c52
      have c52b1 : decide (((((((((t407 ++ (⟨#[32, 49, 32]⟩ : ByteArray)) ++ (strOfNums y408)) ++ (⟨#[10]⟩ : ByteArray)) ++ t411) ++ (⟨#[32]⟩ : ByteArray)) ++ t412) ++ (⟨#[32]⟩ : ByteArray)) ++ (strOfNums y413)).size + 1 ≤ 9223372036854775807) = true := decide_eq_true c52
      try have c52b2 : (9223372036854775807 < ((((((((t407 ++ (⟨#[32, 49, 32]⟩ : ByteArray)) ++ (strOfNums y408)) ++ (⟨#[10]⟩ : ByteArray)) ++ t411) ++ (⟨#[32]⟩ : ByteArray)) ++ t412) ++ (⟨#[32]⟩ : ByteArray)) ++ (strOfNums y413)).size + 1) = False := eq_false (Nat.not_lt.2 c52)
      try have c52b3 : (9223372036854775807 < t407.size + 3 + (strOfNums y408).size + 1 + t411.size + 1 + t412.size + 1 + (strOfNums y413).size + 1) = False := eq_false (Nat.not_lt.2 (by have h_ := c52; simp only [ByteArray.size_append] at h_; exact h_))
      have H' := Aside0.mk H
      clear H
      try go_wp2
      replace HO_400003 := Aside0.mk (Kd.R_drew HO_400003.out)
      replace HO406 := Aside0.mk (Kd.R_drew HO406.out)
      replace BK399 := Aside0.mk (blk_drew BK399.out)
      replace BK401 := Aside0.mk (blk_drew BK401.out)
      replace HB := Aside0.mk (below_drew1 HB.out)
      refine start_ (n := 29) (S := fun w' => w'.cell? ⟨gb401, 0, none⟩ = some (.int .i64 ((rd_T23 t396 x14_2).f0)) ∧ w'.cell? ⟨gb401, 1, none⟩ = some (.int .i64 ((rd_T23 t396 x14_2).f1)) ∧ w'.cell? ⟨gb401, 2, none⟩ = some (.int .u8 ((rd_T23 t396 x14_2).f2))) (ds := []) bz_15 (by kernel_rfl) rfl rfl (k3_ BK401) (fun hHeld => ?_); refine with_tabW salvorlaw17_MapParts.tab17 salvorlaw17_MapParts.bits17 (fun HT_ HW_ => ?_)
      generalize w38.drew = w53 at HO_400003 HO406 BK399 BK401 HB hHeld ⊢
      refine pu_ 0 84 (lb_ 29 1) rfl rfl (ao_ HT_) ?_
      refine pu_ 4 88 (lb_ 29 17) rfl rfl (ao_ HT_) ?_
      refine pu_ 10 94 (lb_ 29 1041) rfl rfl (ao_ HT_) ?_
      refine pu_ 16 100 (lb_ 29 66577) rfl rfl (ao_ HT_) ?_
      refine pu_ 22 106 (lb_ 29 4260881) rfl rfl (ao_ HT_) ?_
      refine tk_ 1 85 (lb_ 29 4260883) rfl rfl (take_ofW HT_.out HW_.out (by kernel_rfl)) hHeld ?_
      refine tk_ 5 89 (lb_ 29 4260915) rfl rfl (take_ofW HT_.out HW_.out (by kernel_rfl)) hHeld ?_
      refine tk_ 11 95 (lb_ 29 4262963) rfl rfl (take_ofW HT_.out HW_.out (by kernel_rfl)) hHeld ?_
      refine pu_ 12 96 (lb_ 29 4267059) rfl rfl (ao_ HT_) ?_
      refine tk_ 17 101 (lb_ 29 4398131) rfl rfl (take_ofW HT_.out HW_.out (by kernel_rfl)) hHeld ?_
      refine pu_ 18 102 (lb_ 29 4660275) rfl rfl (ao_ HT_) ?_
      refine tk_ 23 107 (lb_ 29 13048883) rfl rfl (take_ofW HT_.out HW_.out (by kernel_rfl)) hHeld ?_
      refine join_ (σ := Value × Value) 3 bz_16 (fun s_ => [(86, .string t407), (90, s_.1), (91, .string (strOfNums y408)), (97, .string t411), (103, .string t412), (108, s_.2), (109, .string (strOfNums y413)), (87, .string (t407 ++ (⟨#[32, 49, 32]⟩ : ByteArray))), (92, .string ((t407 ++ (⟨#[32, 49, 32]⟩ : ByteArray)) ++ (strOfNums y408))), (93, .string (((t407 ++ (⟨#[32, 49, 32]⟩ : ByteArray)) ++ (strOfNums y408)) ++ (⟨#[10]⟩ : ByteArray))), (98, .string ((((t407 ++ (⟨#[32, 49, 32]⟩ : ByteArray)) ++ (strOfNums y408)) ++ (⟨#[10]⟩ : ByteArray)) ++ t411)), (99, .string (((((t407 ++ (⟨#[32, 49, 32]⟩ : ByteArray)) ++ (strOfNums y408)) ++ (⟨#[10]⟩ : ByteArray)) ++ t411) ++ (⟨#[32]⟩ : ByteArray))), (104, .string ((((((t407 ++ (⟨#[32, 49, 32]⟩ : ByteArray)) ++ (strOfNums y408)) ++ (⟨#[10]⟩ : ByteArray)) ++ t411) ++ (⟨#[32]⟩ : ByteArray)) ++ t412)), (105, .string (((((((t407 ++ (⟨#[32, 49, 32]⟩ : ByteArray)) ++ (strOfNums y408)) ++ (⟨#[10]⟩ : ByteArray)) ++ t411) ++ (⟨#[32]⟩ : ByteArray)) ++ t412) ++ (⟨#[32]⟩ : ByteArray)))]) (fun s_ w' => (w'.cell? ⟨gb401, 0, none⟩ = some (.int .i64 ((rd_T23 t396 x14_2).f0)) ∧ w'.cell? ⟨gb401, 1, none⟩ = some (.int .i64 ((rd_T23 t396 x14_2).f1)) ∧ w'.cell? ⟨gb401, 2, none⟩ = some (.int .u8 ((rd_T23 t396 x14_2).f2))) ∧ (Kd.R (Kd.int .u8) 5 w' w.heap.size (fun k_ => some k_ ≠ (s_.1 : Value).ownBlock ∧ some k_ ≠ (s_.2 : Value).ownBlock) v405 y404) ∧ (Kd.R (Kd.int .u8) 5 w' w.heap.size (fun k_ => some k_ ≠ (v405 : Value).ownBlock ∧ some k_ ≠ (s_.2 : Value).ownBlock) s_.1 y408) ∧ (Kd.R (Kd.int .u8) 5 w' w.heap.size (fun k_ => some k_ ≠ (v405 : Value).ownBlock ∧ some k_ ≠ (s_.1 : Value).ownBlock) s_.2 y413) ∧ (Kd.R k23 23 w' w.heap.size (fun k_ => k_ ≠ gb401) (.slice (some ad400) t396.length co13) t396) ∧ (w'.heap[gb399]? = some (.cells #[.int .i64 0, .int .i64 0, .int .u8 43, .slice (some ad400) t396.length co13] 26 (0, 0))) ∧ (w'.heap[gb401]? = some (.cells #[.int .i64 ((rd_T23 t396 x14_2).f0), .int .i64 ((rd_T23 t396 x14_2).f1), .int .u8 ((rd_T23 t396 x14_2).f2)] 23 (0, 0))) ∧ (Below w.heap.size w w')) ?_ ?_
      rotate_left
      ·intro hJ2_6_7_13_19_24_25
       refine join_ (σ := Value × Value) 4 bz_17 (fun s_ => [(86, .string t407), (90, s_.1), (91, .string (strOfNums y408)), (97, .string t411), (103, .string t412), (108, s_.2), (87, .string (t407 ++ (⟨#[32, 49, 32]⟩ : ByteArray))), (92, .string ((t407 ++ (⟨#[32, 49, 32]⟩ : ByteArray)) ++ (strOfNums y408))), (93, .string (((t407 ++ (⟨#[32, 49, 32]⟩ : ByteArray)) ++ (strOfNums y408)) ++ (⟨#[10]⟩ : ByteArray))), (98, .string ((((t407 ++ (⟨#[32, 49, 32]⟩ : ByteArray)) ++ (strOfNums y408)) ++ (⟨#[10]⟩ : ByteArray)) ++ t411)), (99, .string (((((t407 ++ (⟨#[32, 49, 32]⟩ : ByteArray)) ++ (strOfNums y408)) ++ (⟨#[10]⟩ : ByteArray)) ++ t411) ++ (⟨#[32]⟩ : ByteArray))), (104, .string ((((((t407 ++ (⟨#[32, 49, 32]⟩ : ByteArray)) ++ (strOfNums y408)) ++ (⟨#[10]⟩ : ByteArray)) ++ t411) ++ (⟨#[32]⟩ : ByteArray)) ++ t412)), (105, .string (((((((t407 ++ (⟨#[32, 49, 32]⟩ : ByteArray)) ++ (strOfNums y408)) ++ (⟨#[10]⟩ : ByteArray)) ++ t411) ++ (⟨#[32]⟩ : ByteArray)) ++ t412) ++ (⟨#[32]⟩ : ByteArray)))]) (fun s_ w' => (w'.cell? ⟨gb401, 0, none⟩ = some (.int .i64 ((rd_T23 t396 x14_2).f0)) ∧ w'.cell? ⟨gb401, 1, none⟩ = some (.int .i64 ((rd_T23 t396 x14_2).f1)) ∧ w'.cell? ⟨gb401, 2, none⟩ = some (.int .u8 ((rd_T23 t396 x14_2).f2))) ∧ (Kd.R (Kd.int .u8) 5 w' w.heap.size (fun k_ => some k_ ≠ (s_.1 : Value).ownBlock ∧ some k_ ≠ (s_.2 : Value).ownBlock) v405 y404) ∧ (Kd.R (Kd.int .u8) 5 w' w.heap.size (fun k_ => some k_ ≠ (v405 : Value).ownBlock ∧ some k_ ≠ (s_.2 : Value).ownBlock) s_.1 y408) ∧ (Kd.R (Kd.int .u8) 5 w' w.heap.size (fun k_ => some k_ ≠ (v405 : Value).ownBlock ∧ some k_ ≠ (s_.1 : Value).ownBlock) s_.2 y413) ∧ (Kd.R k23 23 w' w.heap.size (fun k_ => k_ ≠ gb401) (.slice (some ad400) t396.length co13) t396) ∧ (w'.heap[gb399]? = some (.cells #[.int .i64 0, .int .i64 0, .int .u8 43, .slice (some ad400) t396.length co13] 26 (0, 0))) ∧ (w'.heap[gb401]? = some (.cells #[.int .i64 ((rd_T23 t396 x14_2).f0), .int .i64 ((rd_T23 t396 x14_2).f1), .int .u8 ((rd_T23 t396 x14_2).f2)] 23 (0, 0))) ∧ (Below w.heap.size w w')) ?_ ?_
       ·as_aux_lemma =>
         clear HO_400003 HO406 BK399 BK401 HB
         rintro ⟨v409, v414⟩ w62 ⟨hHeld, h0_, h1_, h2_, h3_, h4_, h5_, h6_⟩
         (try dsimp only at hHeld); (try dsimp only at h0_); (try dsimp only at h1_); (try dsimp only at h2_); (try dsimp only at h3_); (try dsimp only at h4_); (try dsimp only at h5_); (try dsimp only at h6_)
         have HO406 := Aside0.mk h0_; have HO410 := Aside0.mk h1_; have HO415 := Aside0.mk h2_; have HO_400003 := Aside0.mk h3_; have BK399 := Aside0.mk h4_; have BK401 := Aside0.mk h5_; have HB := Aside0.mk h6_; clear h0_ h1_ h2_ h3_ h4_ h5_ h6_
         refine norm_ (a' := ?_) ?_ ?_
         rotate_left
         ·simp only [putAll, Act.put, List.setIfInBounds_toArray, List.set_cons_zero, List.set_cons_succ]
          rfl
         refine one_ (i := 25) (N := some 109) bz_16 rfl rfl (one_of HT_.out (by kernel_rfl)) (by decide) (fun K hK => ?_)
         have hcv63 := own_string (P := Tryz.prog) Tryz.underlying39 Tryz.underlying5 Tryz.underlying9 (Kd.own_of_R HO415.out)
         refine value_ (w1 := ?_) (v := ?_) (by rfl) rfl ?_ ?_
         rotate_left 2
         ·go_simp
          constructor
          ·rfl
          rfl
         clear hcv63
         refine hK.out _ _ (k3_ BK401) (fun hHeld => ?_)
         clear hK K
         refine nm_ 109 ?_
         exact nx_ (hJ2_6_7_13_19_24_25 (v409, v414) _ ⟨hHeld, (ky_ HO406), (ky_ HO410), (ky_ HO415), (ky_ HO_400003), (bq_ BK399), (bq_ BK401), (bh_ HB)⟩)
       intro hJ2_6_7_13_19_24
       refine join_ (σ := Value × Value) 6 bz_18 (fun s_ => [(86, .string t407), (90, s_.1), (91, .string (strOfNums y408)), (97, .string t411), (108, s_.2), (109, .string (strOfNums y413)), (87, .string (t407 ++ (⟨#[32, 49, 32]⟩ : ByteArray))), (92, .string ((t407 ++ (⟨#[32, 49, 32]⟩ : ByteArray)) ++ (strOfNums y408))), (93, .string (((t407 ++ (⟨#[32, 49, 32]⟩ : ByteArray)) ++ (strOfNums y408)) ++ (⟨#[10]⟩ : ByteArray))), (98, .string ((((t407 ++ (⟨#[32, 49, 32]⟩ : ByteArray)) ++ (strOfNums y408)) ++ (⟨#[10]⟩ : ByteArray)) ++ t411)), (99, .string (((((t407 ++ (⟨#[32, 49, 32]⟩ : ByteArray)) ++ (strOfNums y408)) ++ (⟨#[10]⟩ : ByteArray)) ++ t411) ++ (⟨#[32]⟩ : ByteArray)))]) (fun s_ w' => (w'.cell? ⟨gb401, 0, none⟩ = some (.int .i64 ((rd_T23 t396 x14_2).f0)) ∧ w'.cell? ⟨gb401, 1, none⟩ = some (.int .i64 ((rd_T23 t396 x14_2).f1)) ∧ w'.cell? ⟨gb401, 2, none⟩ = some (.int .u8 ((rd_T23 t396 x14_2).f2))) ∧ (Kd.R (Kd.int .u8) 5 w' w.heap.size (fun k_ => some k_ ≠ (s_.1 : Value).ownBlock ∧ some k_ ≠ (s_.2 : Value).ownBlock) v405 y404) ∧ (Kd.R (Kd.int .u8) 5 w' w.heap.size (fun k_ => some k_ ≠ (v405 : Value).ownBlock ∧ some k_ ≠ (s_.2 : Value).ownBlock) s_.1 y408) ∧ (Kd.R (Kd.int .u8) 5 w' w.heap.size (fun k_ => some k_ ≠ (v405 : Value).ownBlock ∧ some k_ ≠ (s_.1 : Value).ownBlock) s_.2 y413) ∧ (Kd.R k23 23 w' w.heap.size (fun k_ => k_ ≠ gb401) (.slice (some ad400) t396.length co13) t396) ∧ (w'.heap[gb399]? = some (.cells #[.int .i64 0, .int .i64 0, .int .u8 43, .slice (some ad400) t396.length co13] 26 (0, 0))) ∧ (w'.heap[gb401]? = some (.cells #[.int .i64 ((rd_T23 t396 x14_2).f0), .int .i64 ((rd_T23 t396 x14_2).f1), .int .u8 ((rd_T23 t396 x14_2).f2)] 23 (0, 0))) ∧ (Below w.heap.size w w')) ?_ ?_
       ·as_aux_lemma =>
         clear HO_400003 HO406 BK399 BK401 HB
         rintro ⟨v409, v414⟩ w62 ⟨hHeld, h0_, h1_, h2_, h3_, h4_, h5_, h6_⟩
         (try dsimp only at hHeld); (try dsimp only at h0_); (try dsimp only at h1_); (try dsimp only at h2_); (try dsimp only at h3_); (try dsimp only at h4_); (try dsimp only at h5_); (try dsimp only at h6_)
         have HO406 := Aside0.mk h0_; have HO410 := Aside0.mk h1_; have HO415 := Aside0.mk h2_; have HO_400003 := Aside0.mk h3_; have BK399 := Aside0.mk h4_; have BK401 := Aside0.mk h5_; have HB := Aside0.mk h6_; clear h0_ h1_ h2_ h3_ h4_ h5_ h6_
         refine norm_ (a' := ?_) ?_ ?_
         rotate_left
         ·simp only [putAll, Act.put, List.setIfInBounds_toArray, List.set_cons_zero, List.set_cons_succ]
          rfl
         refine one_ (i := 19) (N := some 103) bz_19 rfl rfl (one_of HT_.out (by kernel_rfl)) (by decide) (fun K hK => ?_)
         refine gq_ Tryz.func22 (by kernel_rfl) rfl #[.int .i64 (wrap64 (((rd_T23 t396 x14_2).f1) - 1))] (by rfl) rfl rfl ?_
         with_reducible refine (num_Dec.calls (wrap64 (((rd_T23 t396 x14_2).f1) - 1)) t412 _ A48.out ?tb66_).mono ?_
         (case tb66_ => exact tb_ HTAB HB)
         rintro e w63 ⟨rfl, hb⟩
         refine ⟨_, rfl, ?_⟩
         replace HO_400003 := Aside0.mk (Kd.R_below (ky_ HO_400003) hb)
         replace HO406 := Aside0.mk (Kd.R_below (ky_ HO406) hb)
         replace HO410 := Aside0.mk (Kd.R_below (ky_ HO410) hb)
         replace HO415 := Aside0.mk (Kd.R_below (ky_ HO415) hb)
         replace BK399 := bb_ BK399 hb
         replace BK401 := bb_ BK401 hb
         replace HB := bs_ HB hb
         (try clear hb)
         refine hK.out _ _ (k3_ BK401) (fun hHeld => ?_)
         clear hK K
         refine nm_ 103 ?_
         refine pu_ 20 104 (lb_ 29 65011711) rfl rfl (ao_ HT_) ?_
         refine pu_ 21 105 (lb_ 29 67108863) rfl rfl (ao_ HT_) ?_
         exact nx_ (hJ2_6_7_13_19_24_25 (v409, v414) _ ⟨hHeld, (ky_ HO406), (ky_ HO410), (ky_ HO415), (ky_ HO_400003), (bq_ BK399), (bq_ BK401), (bh_ HB)⟩)
       intro hJ2_6_7_13_24_25
       refine join_ (σ := Value × Value) 10 bz_20 (fun s_ => [(86, .string t407), (90, s_.1), (97, .string t411), (103, .string t412), (108, s_.2), (109, .string (strOfNums y413)), (87, .string (t407 ++ (⟨#[32, 49, 32]⟩ : ByteArray)))]) (fun s_ w' => (w'.cell? ⟨gb401, 0, none⟩ = some (.int .i64 ((rd_T23 t396 x14_2).f0)) ∧ w'.cell? ⟨gb401, 1, none⟩ = some (.int .i64 ((rd_T23 t396 x14_2).f1)) ∧ w'.cell? ⟨gb401, 2, none⟩ = some (.int .u8 ((rd_T23 t396 x14_2).f2))) ∧ (Kd.R (Kd.int .u8) 5 w' w.heap.size (fun k_ => some k_ ≠ (s_.1 : Value).ownBlock ∧ some k_ ≠ (s_.2 : Value).ownBlock) v405 y404) ∧ (Kd.R (Kd.int .u8) 5 w' w.heap.size (fun k_ => some k_ ≠ (v405 : Value).ownBlock ∧ some k_ ≠ (s_.2 : Value).ownBlock) s_.1 y408) ∧ (Kd.R (Kd.int .u8) 5 w' w.heap.size (fun k_ => some k_ ≠ (v405 : Value).ownBlock ∧ some k_ ≠ (s_.1 : Value).ownBlock) s_.2 y413) ∧ (Kd.R k23 23 w' w.heap.size (fun k_ => k_ ≠ gb401) (.slice (some ad400) t396.length co13) t396) ∧ (w'.heap[gb399]? = some (.cells #[.int .i64 0, .int .i64 0, .int .u8 43, .slice (some ad400) t396.length co13] 26 (0, 0))) ∧ (w'.heap[gb401]? = some (.cells #[.int .i64 ((rd_T23 t396 x14_2).f0), .int .i64 ((rd_T23 t396 x14_2).f1), .int .u8 ((rd_T23 t396 x14_2).f2)] 23 (0, 0))) ∧ (Below w.heap.size w w')) ?_ ?_
       ·as_aux_lemma =>
         clear HO_400003 HO406 BK399 BK401 HB
         rintro ⟨v409, v414⟩ w62 ⟨hHeld, h0_, h1_, h2_, h3_, h4_, h5_, h6_⟩
         (try dsimp only at hHeld); (try dsimp only at h0_); (try dsimp only at h1_); (try dsimp only at h2_); (try dsimp only at h3_); (try dsimp only at h4_); (try dsimp only at h5_); (try dsimp only at h6_)
         have HO406 := Aside0.mk h0_; have HO410 := Aside0.mk h1_; have HO415 := Aside0.mk h2_; have HO_400003 := Aside0.mk h3_; have BK399 := Aside0.mk h4_; have BK401 := Aside0.mk h5_; have HB := Aside0.mk h6_; clear h0_ h1_ h2_ h3_ h4_ h5_ h6_
         refine norm_ (a' := ?_) ?_ ?_
         rotate_left
         ·simp only [putAll, Act.put, List.setIfInBounds_toArray, List.set_cons_zero, List.set_cons_succ]
          rfl
         refine one_ (i := 7) (N := some 91) bz_21 rfl rfl (one_of HT_.out (by kernel_rfl)) (by decide) (fun K hK => ?_)
         have hcv63 := own_string (P := Tryz.prog) Tryz.underlying39 Tryz.underlying5 Tryz.underlying9 (Kd.own_of_R HO410.out)
         refine value_ (w1 := ?_) (v := ?_) (by rfl) rfl ?_ ?_
         rotate_left 2
         ·go_simp
          constructor
          ·rfl
          rfl
         clear hcv63
         refine hK.out _ _ (k3_ BK401) (fun hHeld => ?_)
         clear hK K
         refine nm_ 91 ?_
         refine pu_ 8 92 (lb_ 29 63913471) rfl rfl (ao_ HT_) ?_
         refine pu_ 9 93 (lb_ 29 63913983) rfl rfl (ao_ HT_) ?_
         refine pu_ 14 98 (lb_ 29 63930367) rfl rfl (ao_ HT_) ?_
         refine pu_ 15 99 (lb_ 29 63963135) rfl rfl (ao_ HT_) ?_
         refine pu_ 20 104 (lb_ 29 65011711) rfl rfl (ao_ HT_) ?_
         refine pu_ 21 105 (lb_ 29 67108863) rfl rfl (ao_ HT_) ?_
         exact nx_ (hJ2_6_7_13_19_24_25 (v409, v414) _ ⟨hHeld, (ky_ HO406), (ky_ HO410), (ky_ HO415), (ky_ HO_400003), (bq_ BK399), (bq_ BK401), (bh_ HB)⟩)
       intro hJ2_6_13_19_24_25
       refine join_ (σ := Value) 5 bz_22 (fun s_ => [(86, .string t407), (90, s_), (91, .string (strOfNums y408)), (97, .string t411), (103, .string t412), (87, .string (t407 ++ (⟨#[32, 49, 32]⟩ : ByteArray))), (92, .string ((t407 ++ (⟨#[32, 49, 32]⟩ : ByteArray)) ++ (strOfNums y408))), (93, .string (((t407 ++ (⟨#[32, 49, 32]⟩ : ByteArray)) ++ (strOfNums y408)) ++ (⟨#[10]⟩ : ByteArray))), (98, .string ((((t407 ++ (⟨#[32, 49, 32]⟩ : ByteArray)) ++ (strOfNums y408)) ++ (⟨#[10]⟩ : ByteArray)) ++ t411)), (99, .string (((((t407 ++ (⟨#[32, 49, 32]⟩ : ByteArray)) ++ (strOfNums y408)) ++ (⟨#[10]⟩ : ByteArray)) ++ t411) ++ (⟨#[32]⟩ : ByteArray))), (104, .string ((((((t407 ++ (⟨#[32, 49, 32]⟩ : ByteArray)) ++ (strOfNums y408)) ++ (⟨#[10]⟩ : ByteArray)) ++ t411) ++ (⟨#[32]⟩ : ByteArray)) ++ t412)), (105, .string (((((((t407 ++ (⟨#[32, 49, 32]⟩ : ByteArray)) ++ (strOfNums y408)) ++ (⟨#[10]⟩ : ByteArray)) ++ t411) ++ (⟨#[32]⟩ : ByteArray)) ++ t412) ++ (⟨#[32]⟩ : ByteArray)))]) (fun s_ w' => (w'.cell? ⟨gb401, 0, none⟩ = some (.int .i64 ((rd_T23 t396 x14_2).f0)) ∧ w'.cell? ⟨gb401, 1, none⟩ = some (.int .i64 ((rd_T23 t396 x14_2).f1)) ∧ w'.cell? ⟨gb401, 2, none⟩ = some (.int .u8 ((rd_T23 t396 x14_2).f2))) ∧ (Kd.R (Kd.int .u8) 5 w' w.heap.size (fun k_ => some k_ ≠ (s_ : Value).ownBlock) v405 y404) ∧ (Kd.R (Kd.int .u8) 5 w' w.heap.size (fun k_ => some k_ ≠ (v405 : Value).ownBlock) s_ y408) ∧ (Kd.R k23 23 w' w.heap.size (fun k_ => k_ ≠ gb401) (.slice (some ad400) t396.length co13) t396) ∧ (w'.heap[gb399]? = some (.cells #[.int .i64 0, .int .i64 0, .int .u8 43, .slice (some ad400) t396.length co13] 26 (0, 0))) ∧ (w'.heap[gb401]? = some (.cells #[.int .i64 ((rd_T23 t396 x14_2).f0), .int .i64 ((rd_T23 t396 x14_2).f1), .int .u8 ((rd_T23 t396 x14_2).f2)] 23 (0, 0))) ∧ (Below w.heap.size w w')) ?_ ?_
       ·as_aux_lemma =>
         clear HO_400003 HO406 BK399 BK401 HB
         rintro v409 w60 ⟨hHeld, h0_, h1_, h2_, h3_, h4_, h5_⟩
         have HO406 := Aside0.mk h0_; have HO410 := Aside0.mk h1_; have HO_400003 := Aside0.mk h2_; have BK399 := Aside0.mk h3_; have BK401 := Aside0.mk h4_; have HB := Aside0.mk h5_; clear h0_ h1_ h2_ h3_ h4_ h5_
         refine norm_ (a' := ?_) ?_ ?_
         rotate_left
         ·simp only [putAll, Act.put, List.setIfInBounds_toArray, List.set_cons_zero, List.set_cons_succ]
          rfl
         refine one_ (i := 24) (N := some 108) bz_17 rfl rfl (one_of HT_.out (by kernel_rfl)) (by decide) (fun K hK => ?_)
         refine Kd.R_lit_step (Kd.int .u8) _ 5 ?hg (N := 108) ?hd (xs := ([(rd_T23 t396 x14_2).f2] : List Int)) (inner := [.int .u8 ((rd_T23 t396 x14_2).f2)]) (ok := fun _ => True) (okp := fun _ => True) ?hr ?hp (fun _ hk => hk) trivial (Below.refl _ _) (Nat.le_refl _) (by simp) ?_; (case hd => rfl); (case hg => rfl); (case hr => first | (go_simp; done) | (go_simp; rfl)); (case hp => exact (Reps.one (show Kd.M (Kd.int .u8) _ _ _ ((rd_T23 t396 x14_2).f2) [.int .u8 ((rd_T23 t396 x14_2).f2)] from rfl) (Reps.none _ _)))
         intro v414 w61 ho62 hb hg_ hnew_
         clear hg_ hnew_
         (first | rw [← Ny413.out] at ho62 | (simp only [Int.reduceToNat] at ho62; rw [← Ny413.out] at ho62))
         replace HO_400003 := Aside0.mk (Kd.R_below (ky_ HO_400003) hb)
         have HO415 := Aside0.mk (Kd.R_lower (Kd.R_new' (Kd.R_new' ho62 (Kd.R_lt (ky_ HO406))) (Kd.R_lt (ky_ HO410))) (below_size (bh_ HB)))
         replace HO406 := Aside0.mk (Kd.R_elder' (ky_ HO406) (Kd.R_base ho62) hb)
         replace HO410 := Aside0.mk (Kd.R_elder' (ky_ HO410) (Kd.R_base ho62) hb)
         replace BK399 := bb_ BK399 hb
         replace BK401 := bb_ BK401 hb
         replace HB := bs_ HB hb
         clear hb ho62
         refine hK.out _ _ (k3_ BK401) (fun hHeld => ?_)
         clear hK K
         refine nm_ 108 ?_
         exact nx_ (hJ2_6_7_13_19_24 (v409, v414) _ ⟨hHeld, (ky_ HO406), (ky_ HO410), (by (with_reducible repeat (first | apply Kd.R_alloc | apply Kd.R_drewN | apply Kd.R_drew)); exact Kd.R_mono HO415.out (fun _ hk => ⟨hk.1.2, hk.2⟩)), (ky_ HO_400003), (bq_ BK399), (bq_ BK401), (bh_ HB)⟩)
       intro hJ2_6_7_13_19
       refine join_ (σ := Value × Value) 7 bz_23 (fun s_ => [(86, .string t407), (90, s_.1), (91, .string (strOfNums y408)), (97, .string t411), (108, s_.2), (87, .string (t407 ++ (⟨#[32, 49, 32]⟩ : ByteArray))), (92, .string ((t407 ++ (⟨#[32, 49, 32]⟩ : ByteArray)) ++ (strOfNums y408))), (93, .string (((t407 ++ (⟨#[32, 49, 32]⟩ : ByteArray)) ++ (strOfNums y408)) ++ (⟨#[10]⟩ : ByteArray))), (98, .string ((((t407 ++ (⟨#[32, 49, 32]⟩ : ByteArray)) ++ (strOfNums y408)) ++ (⟨#[10]⟩ : ByteArray)) ++ t411)), (99, .string (((((t407 ++ (⟨#[32, 49, 32]⟩ : ByteArray)) ++ (strOfNums y408)) ++ (⟨#[10]⟩ : ByteArray)) ++ t411) ++ (⟨#[32]⟩ : ByteArray)))]) (fun s_ w' => (w'.cell? ⟨gb401, 0, none⟩ = some (.int .i64 ((rd_T23 t396 x14_2).f0)) ∧ w'.cell? ⟨gb401, 1, none⟩ = some (.int .i64 ((rd_T23 t396 x14_2).f1)) ∧ w'.cell? ⟨gb401, 2, none⟩ = some (.int .u8 ((rd_T23 t396 x14_2).f2))) ∧ (Kd.R (Kd.int .u8) 5 w' w.heap.size (fun k_ => some k_ ≠ (s_.1 : Value).ownBlock ∧ some k_ ≠ (s_.2 : Value).ownBlock) v405 y404) ∧ (Kd.R (Kd.int .u8) 5 w' w.heap.size (fun k_ => some k_ ≠ (v405 : Value).ownBlock ∧ some k_ ≠ (s_.2 : Value).ownBlock) s_.1 y408) ∧ (Kd.R (Kd.int .u8) 5 w' w.heap.size (fun k_ => some k_ ≠ (v405 : Value).ownBlock ∧ some k_ ≠ (s_.1 : Value).ownBlock) s_.2 y413) ∧ (Kd.R k23 23 w' w.heap.size (fun k_ => k_ ≠ gb401) (.slice (some ad400) t396.length co13) t396) ∧ (w'.heap[gb399]? = some (.cells #[.int .i64 0, .int .i64 0, .int .u8 43, .slice (some ad400) t396.length co13] 26 (0, 0))) ∧ (w'.heap[gb401]? = some (.cells #[.int .i64 ((rd_T23 t396 x14_2).f0), .int .i64 ((rd_T23 t396 x14_2).f1), .int .u8 ((rd_T23 t396 x14_2).f2)] 23 (0, 0))) ∧ (Below w.heap.size w w')) ?_ ?_
       ·as_aux_lemma =>
         clear HO_400003 HO406 BK399 BK401 HB
         rintro ⟨v409, v414⟩ w61 ⟨hHeld, h0_, h1_, h2_, h3_, h4_, h5_, h6_⟩
         (try dsimp only at hHeld); (try dsimp only at h0_); (try dsimp only at h1_); (try dsimp only at h2_); (try dsimp only at h3_); (try dsimp only at h4_); (try dsimp only at h5_); (try dsimp only at h6_)
         have HO406 := Aside0.mk h0_; have HO410 := Aside0.mk h1_; have HO415 := Aside0.mk h2_; have HO_400003 := Aside0.mk h3_; have BK399 := Aside0.mk h4_; have BK401 := Aside0.mk h5_; have HB := Aside0.mk h6_; clear h0_ h1_ h2_ h3_ h4_ h5_ h6_
         refine norm_ (a' := ?_) ?_ ?_
         rotate_left
         ·simp only [putAll, Act.put, List.setIfInBounds_toArray, List.set_cons_zero, List.set_cons_succ]
          rfl
         refine two_ (i := 19) (j := 25) (Ni := some 103) (Nj := some 109) bz_24 bz_18 rfl rfl rfl rfl (two_of HT_.out (by kernel_rfl)) (by decide) (by decide) (fun K hK => ?_) (fun K hK => ?_)
         ·refine gq_ Tryz.func22 (by kernel_rfl) rfl #[.int .i64 (wrap64 (((rd_T23 t396 x14_2).f1) - 1))] (by rfl) rfl rfl ?_
          with_reducible refine (num_Dec.calls (wrap64 (((rd_T23 t396 x14_2).f1) - 1)) t412 _ A48.out ?tb64_).mono ?_
          (case tb64_ => exact tb_ HTAB HB)
          rintro e w62 ⟨rfl, hb⟩
          refine ⟨_, rfl, ?_⟩
          replace HO_400003 := Aside0.mk (Kd.R_below (ky_ HO_400003) hb)
          replace HO406 := Aside0.mk (Kd.R_below (ky_ HO406) hb)
          replace HO410 := Aside0.mk (Kd.R_below (ky_ HO410) hb)
          replace HO415 := Aside0.mk (Kd.R_below (ky_ HO415) hb)
          replace BK399 := bb_ BK399 hb
          replace BK401 := bb_ BK401 hb
          replace HB := bs_ HB hb
          (try clear hb)
          refine hK.out _ _ (k3_ BK401) (fun hHeld => ?_)
          clear hK K
          refine nm_ 103 ?_
          refine pu_ 20 104 (lb_ 29 31457279) rfl rfl (ao_ HT_) ?_
          refine pu_ 21 105 (lb_ 29 33554431) rfl rfl (ao_ HT_) ?_
          exact nx_ (hJ2_6_7_13_19_24 (v409, v414) _ ⟨hHeld, (ky_ HO406), (ky_ HO410), (ky_ HO415), (ky_ HO_400003), (bq_ BK399), (bq_ BK401), (bh_ HB)⟩)
         skip
         have hcv62 := own_string (P := Tryz.prog) Tryz.underlying39 Tryz.underlying5 Tryz.underlying9 (Kd.own_of_R HO415.out)
         refine value_ (w1 := ?_) (v := ?_) (by rfl) rfl ?_ ?_
         rotate_left 2
         ·go_simp
          constructor
          ·rfl
          rfl
         clear hcv62
         refine hK.out _ _ (k3_ BK401) (fun hHeld => ?_)
         clear hK K
         refine nm_ 109 ?_
         exact nx_ (hJ2_6_7_13_24_25 (v409, v414) _ ⟨hHeld, (ky_ HO406), (ky_ HO410), (ky_ HO415), (ky_ HO_400003), (bq_ BK399), (bq_ BK401), (bh_ HB)⟩)
       intro hJ2_6_7_13_24
       refine join_ (σ := Value × Value) 9 bz_25 (fun s_ => [(86, .string t407), (90, s_.1), (91, .string (strOfNums y408)), (108, s_.2), (109, .string (strOfNums y413)), (87, .string (t407 ++ (⟨#[32, 49, 32]⟩ : ByteArray))), (92, .string ((t407 ++ (⟨#[32, 49, 32]⟩ : ByteArray)) ++ (strOfNums y408))), (93, .string (((t407 ++ (⟨#[32, 49, 32]⟩ : ByteArray)) ++ (strOfNums y408)) ++ (⟨#[10]⟩ : ByteArray)))]) (fun s_ w' => (w'.cell? ⟨gb401, 0, none⟩ = some (.int .i64 ((rd_T23 t396 x14_2).f0)) ∧ w'.cell? ⟨gb401, 1, none⟩ = some (.int .i64 ((rd_T23 t396 x14_2).f1)) ∧ w'.cell? ⟨gb401, 2, none⟩ = some (.int .u8 ((rd_T23 t396 x14_2).f2))) ∧ (Kd.R (Kd.int .u8) 5 w' w.heap.size (fun k_ => some k_ ≠ (s_.1 : Value).ownBlock ∧ some k_ ≠ (s_.2 : Value).ownBlock) v405 y404) ∧ (Kd.R (Kd.int .u8) 5 w' w.heap.size (fun k_ => some k_ ≠ (v405 : Value).ownBlock ∧ some k_ ≠ (s_.2 : Value).ownBlock) s_.1 y408) ∧ (Kd.R (Kd.int .u8) 5 w' w.heap.size (fun k_ => some k_ ≠ (v405 : Value).ownBlock ∧ some k_ ≠ (s_.1 : Value).ownBlock) s_.2 y413) ∧ (Kd.R k23 23 w' w.heap.size (fun k_ => k_ ≠ gb401) (.slice (some ad400) t396.length co13) t396) ∧ (w'.heap[gb399]? = some (.cells #[.int .i64 0, .int .i64 0, .int .u8 43, .slice (some ad400) t396.length co13] 26 (0, 0))) ∧ (w'.heap[gb401]? = some (.cells #[.int .i64 ((rd_T23 t396 x14_2).f0), .int .i64 ((rd_T23 t396 x14_2).f1), .int .u8 ((rd_T23 t396 x14_2).f2)] 23 (0, 0))) ∧ (Below w.heap.size w w')) ?_ ?_
       ·as_aux_lemma =>
         clear HO_400003 HO406 BK399 BK401 HB
         rintro ⟨v409, v414⟩ w61 ⟨hHeld, h0_, h1_, h2_, h3_, h4_, h5_, h6_⟩
         (try dsimp only at hHeld); (try dsimp only at h0_); (try dsimp only at h1_); (try dsimp only at h2_); (try dsimp only at h3_); (try dsimp only at h4_); (try dsimp only at h5_); (try dsimp only at h6_)
         have HO406 := Aside0.mk h0_; have HO410 := Aside0.mk h1_; have HO415 := Aside0.mk h2_; have HO_400003 := Aside0.mk h3_; have BK399 := Aside0.mk h4_; have BK401 := Aside0.mk h5_; have HB := Aside0.mk h6_; clear h0_ h1_ h2_ h3_ h4_ h5_ h6_
         refine norm_ (a' := ?_) ?_ ?_
         rotate_left
         ·simp only [putAll, Act.put, List.setIfInBounds_toArray, List.set_cons_zero, List.set_cons_succ]
          rfl
         refine one_ (i := 13) (N := some 97) bz_26 rfl rfl (one_of HT_.out (by kernel_rfl)) (by decide) (fun K hK => ?_)
         refine gq_ Tryz.func22 (by kernel_rfl) rfl #[.int .i64 (wrap64 (((rd_T23 t396 x14_2).f0) + 1))] (by rfl) rfl rfl ?_
         with_reducible refine (num_Dec.calls (wrap64 (((rd_T23 t396 x14_2).f0) + 1)) t411 _ A45.out ?tb62_).mono ?_
         (case tb62_ => exact tb_ HTAB HB)
         rintro e w62 ⟨rfl, hb⟩
         refine ⟨_, rfl, ?_⟩
         replace HO_400003 := Aside0.mk (Kd.R_below (ky_ HO_400003) hb)
         replace HO406 := Aside0.mk (Kd.R_below (ky_ HO406) hb)
         replace HO410 := Aside0.mk (Kd.R_below (ky_ HO410) hb)
         replace HO415 := Aside0.mk (Kd.R_below (ky_ HO415) hb)
         replace BK399 := bb_ BK399 hb
         replace BK401 := bb_ BK401 hb
         replace HB := bs_ HB hb
         (try clear hb)
         refine hK.out _ _ (k3_ BK401) (fun hHeld => ?_)
         clear hK K
         refine nm_ 97 ?_
         refine pu_ 14 98 (lb_ 29 63406079) rfl rfl (ao_ HT_) ?_
         refine pu_ 15 99 (lb_ 29 63438847) rfl rfl (ao_ HT_) ?_
         exact nx_ (hJ2_6_7_13_24_25 (v409, v414) _ ⟨hHeld, (ky_ HO406), (ky_ HO410), (ky_ HO415), (ky_ HO_400003), (bq_ BK399), (bq_ BK401), (bh_ HB)⟩)
       intro hJ2_6_7_24_25
       refine join_ (σ := Value × Value) 11 bz_27 (fun s_ => [(86, .string t407), (90, s_.1), (97, .string t411), (103, .string t412), (108, s_.2), (87, .string (t407 ++ (⟨#[32, 49, 32]⟩ : ByteArray)))]) (fun s_ w' => (w'.cell? ⟨gb401, 0, none⟩ = some (.int .i64 ((rd_T23 t396 x14_2).f0)) ∧ w'.cell? ⟨gb401, 1, none⟩ = some (.int .i64 ((rd_T23 t396 x14_2).f1)) ∧ w'.cell? ⟨gb401, 2, none⟩ = some (.int .u8 ((rd_T23 t396 x14_2).f2))) ∧ (Kd.R (Kd.int .u8) 5 w' w.heap.size (fun k_ => some k_ ≠ (s_.1 : Value).ownBlock ∧ some k_ ≠ (s_.2 : Value).ownBlock) v405 y404) ∧ (Kd.R (Kd.int .u8) 5 w' w.heap.size (fun k_ => some k_ ≠ (v405 : Value).ownBlock ∧ some k_ ≠ (s_.2 : Value).ownBlock) s_.1 y408) ∧ (Kd.R (Kd.int .u8) 5 w' w.heap.size (fun k_ => some k_ ≠ (v405 : Value).ownBlock ∧ some k_ ≠ (s_.1 : Value).ownBlock) s_.2 y413) ∧ (Kd.R k23 23 w' w.heap.size (fun k_ => k_ ≠ gb401) (.slice (some ad400) t396.length co13) t396) ∧ (w'.heap[gb399]? = some (.cells #[.int .i64 0, .int .i64 0, .int .u8 43, .slice (some ad400) t396.length co13] 26 (0, 0))) ∧ (w'.heap[gb401]? = some (.cells #[.int .i64 ((rd_T23 t396 x14_2).f0), .int .i64 ((rd_T23 t396 x14_2).f1), .int .u8 ((rd_T23 t396 x14_2).f2)] 23 (0, 0))) ∧ (Below w.heap.size w w')) ?_ ?_
       ·as_aux_lemma =>
         clear HO_400003 HO406 BK399 BK401 HB
         rintro ⟨v409, v414⟩ w61 ⟨hHeld, h0_, h1_, h2_, h3_, h4_, h5_, h6_⟩
         (try dsimp only at hHeld); (try dsimp only at h0_); (try dsimp only at h1_); (try dsimp only at h2_); (try dsimp only at h3_); (try dsimp only at h4_); (try dsimp only at h5_); (try dsimp only at h6_)
         have HO406 := Aside0.mk h0_; have HO410 := Aside0.mk h1_; have HO415 := Aside0.mk h2_; have HO_400003 := Aside0.mk h3_; have BK399 := Aside0.mk h4_; have BK401 := Aside0.mk h5_; have HB := Aside0.mk h6_; clear h0_ h1_ h2_ h3_ h4_ h5_ h6_
         refine norm_ (a' := ?_) ?_ ?_
         rotate_left
         ·simp only [putAll, Act.put, List.setIfInBounds_toArray, List.set_cons_zero, List.set_cons_succ]
          rfl
         refine two_ (i := 7) (j := 25) (Ni := some 91) (Nj := some 109) bz_28 bz_20 rfl rfl rfl rfl (two_of HT_.out (by kernel_rfl)) (by decide) (by decide) (fun K hK => ?_) (fun K hK => ?_)
         ·have hcv62 := own_string (P := Tryz.prog) Tryz.underlying39 Tryz.underlying5 Tryz.underlying9 (Kd.own_of_R HO410.out)
          refine value_ (w1 := ?_) (v := ?_) (by rfl) rfl ?_ ?_
          rotate_left 2
          ·go_simp
           constructor
           ·rfl
           rfl
          clear hcv62
          refine hK.out _ _ (k3_ BK401) (fun hHeld => ?_)
          clear hK K
          refine nm_ 91 ?_
          refine pu_ 8 92 (lb_ 29 30359039) rfl rfl (ao_ HT_) ?_
          refine pu_ 9 93 (lb_ 29 30359551) rfl rfl (ao_ HT_) ?_
          refine pu_ 14 98 (lb_ 29 30375935) rfl rfl (ao_ HT_) ?_
          refine pu_ 15 99 (lb_ 29 30408703) rfl rfl (ao_ HT_) ?_
          refine pu_ 20 104 (lb_ 29 31457279) rfl rfl (ao_ HT_) ?_
          refine pu_ 21 105 (lb_ 29 33554431) rfl rfl (ao_ HT_) ?_
          exact nx_ (hJ2_6_7_13_19_24 (v409, v414) _ ⟨hHeld, (ky_ HO406), (ky_ HO410), (ky_ HO415), (ky_ HO_400003), (bq_ BK399), (bq_ BK401), (bh_ HB)⟩)
         skip
         have hcv62 := own_string (P := Tryz.prog) Tryz.underlying39 Tryz.underlying5 Tryz.underlying9 (Kd.own_of_R HO415.out)
         refine value_ (w1 := ?_) (v := ?_) (by rfl) rfl ?_ ?_
         rotate_left 2
         ·go_simp
          constructor
          ·rfl
          rfl
         clear hcv62
         refine hK.out _ _ (k3_ BK401) (fun hHeld => ?_)
         clear hK K
         refine nm_ 109 ?_
         exact nx_ (hJ2_6_13_19_24_25 (v409, v414) _ ⟨hHeld, (ky_ HO406), (ky_ HO410), (ky_ HO415), (ky_ HO_400003), (bq_ BK399), (bq_ BK401), (bh_ HB)⟩)
       intro hJ2_6_13_19_24
       refine join_ (σ := Value × Value) 11 bz_29 (fun s_ => [(86, .string t407), (90, s_.1), (97, .string t411), (108, s_.2), (109, .string (strOfNums y413)), (87, .string (t407 ++ (⟨#[32, 49, 32]⟩ : ByteArray)))]) (fun s_ w' => (w'.cell? ⟨gb401, 0, none⟩ = some (.int .i64 ((rd_T23 t396 x14_2).f0)) ∧ w'.cell? ⟨gb401, 1, none⟩ = some (.int .i64 ((rd_T23 t396 x14_2).f1)) ∧ w'.cell? ⟨gb401, 2, none⟩ = some (.int .u8 ((rd_T23 t396 x14_2).f2))) ∧ (Kd.R (Kd.int .u8) 5 w' w.heap.size (fun k_ => some k_ ≠ (s_.1 : Value).ownBlock ∧ some k_ ≠ (s_.2 : Value).ownBlock) v405 y404) ∧ (Kd.R (Kd.int .u8) 5 w' w.heap.size (fun k_ => some k_ ≠ (v405 : Value).ownBlock ∧ some k_ ≠ (s_.2 : Value).ownBlock) s_.1 y408) ∧ (Kd.R (Kd.int .u8) 5 w' w.heap.size (fun k_ => some k_ ≠ (v405 : Value).ownBlock ∧ some k_ ≠ (s_.1 : Value).ownBlock) s_.2 y413) ∧ (Kd.R k23 23 w' w.heap.size (fun k_ => k_ ≠ gb401) (.slice (some ad400) t396.length co13) t396) ∧ (w'.heap[gb399]? = some (.cells #[.int .i64 0, .int .i64 0, .int .u8 43, .slice (some ad400) t396.length co13] 26 (0, 0))) ∧ (w'.heap[gb401]? = some (.cells #[.int .i64 ((rd_T23 t396 x14_2).f0), .int .i64 ((rd_T23 t396 x14_2).f1), .int .u8 ((rd_T23 t396 x14_2).f2)] 23 (0, 0))) ∧ (Below w.heap.size w w')) ?_ ?_
       ·as_aux_lemma =>
         clear HO_400003 HO406 BK399 BK401 HB
         rintro ⟨v409, v414⟩ w61 ⟨hHeld, h0_, h1_, h2_, h3_, h4_, h5_, h6_⟩
         (try dsimp only at hHeld); (try dsimp only at h0_); (try dsimp only at h1_); (try dsimp only at h2_); (try dsimp only at h3_); (try dsimp only at h4_); (try dsimp only at h5_); (try dsimp only at h6_)
         have HO406 := Aside0.mk h0_; have HO410 := Aside0.mk h1_; have HO415 := Aside0.mk h2_; have HO_400003 := Aside0.mk h3_; have BK399 := Aside0.mk h4_; have BK401 := Aside0.mk h5_; have HB := Aside0.mk h6_; clear h0_ h1_ h2_ h3_ h4_ h5_ h6_
         refine norm_ (a' := ?_) ?_ ?_
         rotate_left
         ·simp only [putAll, Act.put, List.setIfInBounds_toArray, List.set_cons_zero, List.set_cons_succ]
          rfl
         refine two_ (i := 7) (j := 19) (Ni := some 91) (Nj := some 103) bz_30 bz_20 rfl rfl rfl rfl (two_of HT_.out (by kernel_rfl)) (by decide) (by decide) (fun K hK => ?_) (fun K hK => ?_)
         ·have hcv62 := own_string (P := Tryz.prog) Tryz.underlying39 Tryz.underlying5 Tryz.underlying9 (Kd.own_of_R HO410.out)
          refine value_ (w1 := ?_) (v := ?_) (by rfl) rfl ?_ ?_
          rotate_left 2
          ·go_simp
           constructor
           ·rfl
           rfl
          clear hcv62
          refine hK.out _ _ (k3_ BK401) (fun hHeld => ?_)
          clear hK K
          refine nm_ 91 ?_
          refine pu_ 8 92 (lb_ 29 63389183) rfl rfl (ao_ HT_) ?_
          refine pu_ 9 93 (lb_ 29 63389695) rfl rfl (ao_ HT_) ?_
          refine pu_ 14 98 (lb_ 29 63406079) rfl rfl (ao_ HT_) ?_
          refine pu_ 15 99 (lb_ 29 63438847) rfl rfl (ao_ HT_) ?_
          exact nx_ (hJ2_6_7_13_24_25 (v409, v414) _ ⟨hHeld, (ky_ HO406), (ky_ HO410), (ky_ HO415), (ky_ HO_400003), (bq_ BK399), (bq_ BK401), (bh_ HB)⟩)
         skip
         refine gq_ Tryz.func22 (by kernel_rfl) rfl #[.int .i64 (wrap64 (((rd_T23 t396 x14_2).f1) - 1))] (by rfl) rfl rfl ?_
         with_reducible refine (num_Dec.calls (wrap64 (((rd_T23 t396 x14_2).f1) - 1)) t412 _ A48.out ?tb60_).mono ?_
         (case tb60_ => exact tb_ HTAB HB)
         rintro e w62 ⟨rfl, hb⟩
         refine ⟨_, rfl, ?_⟩
         replace HO_400003 := Aside0.mk (Kd.R_below (ky_ HO_400003) hb)
         replace HO406 := Aside0.mk (Kd.R_below (ky_ HO406) hb)
         replace HO410 := Aside0.mk (Kd.R_below (ky_ HO410) hb)
         replace HO415 := Aside0.mk (Kd.R_below (ky_ HO415) hb)
         replace BK399 := bb_ BK399 hb
         replace BK401 := bb_ BK401 hb
         replace HB := bs_ HB hb
         (try clear hb)
         refine hK.out _ _ (k3_ BK401) (fun hHeld => ?_)
         clear hK K
         refine nm_ 103 ?_
         exact nx_ (hJ2_6_13_19_24_25 (v409, v414) _ ⟨hHeld, (ky_ HO406), (ky_ HO410), (ky_ HO415), (ky_ HO_400003), (bq_ BK399), (bq_ BK401), (bh_ HB)⟩)
       intro hJ2_6_13_24_25
       refine join_ (σ := Value) 11 bz_31 (fun s_ => [(86, .string t407), (97, .string t411), (103, .string t412), (108, s_), (109, .string (strOfNums y413)), (87, .string (t407 ++ (⟨#[32, 49, 32]⟩ : ByteArray)))]) (fun s_ w' => (w'.cell? ⟨gb401, 0, none⟩ = some (.int .i64 ((rd_T23 t396 x14_2).f0)) ∧ w'.cell? ⟨gb401, 1, none⟩ = some (.int .i64 ((rd_T23 t396 x14_2).f1)) ∧ w'.cell? ⟨gb401, 2, none⟩ = some (.int .u8 ((rd_T23 t396 x14_2).f2))) ∧ (Kd.R (Kd.int .u8) 5 w' w.heap.size (fun k_ => some k_ ≠ (s_ : Value).ownBlock) v405 y404) ∧ (Kd.R (Kd.int .u8) 5 w' w.heap.size (fun k_ => some k_ ≠ (v405 : Value).ownBlock) s_ y413) ∧ (Kd.R k23 23 w' w.heap.size (fun k_ => k_ ≠ gb401) (.slice (some ad400) t396.length co13) t396) ∧ (w'.heap[gb399]? = some (.cells #[.int .i64 0, .int .i64 0, .int .u8 43, .slice (some ad400) t396.length co13] 26 (0, 0))) ∧ (w'.heap[gb401]? = some (.cells #[.int .i64 ((rd_T23 t396 x14_2).f0), .int .i64 ((rd_T23 t396 x14_2).f1), .int .u8 ((rd_T23 t396 x14_2).f2)] 23 (0, 0))) ∧ (Below w.heap.size w w')) ?_ ?_
       ·as_aux_lemma =>
         clear HO_400003 HO406 BK399 BK401 HB
         rintro v414 w60 ⟨hHeld, h0_, h1_, h2_, h3_, h4_, h5_⟩
         have HO406 := Aside0.mk h0_; have HO415 := Aside0.mk h1_; have HO_400003 := Aside0.mk h2_; have BK399 := Aside0.mk h3_; have BK401 := Aside0.mk h4_; have HB := Aside0.mk h5_; clear h0_ h1_ h2_ h3_ h4_ h5_
         refine norm_ (a' := ?_) ?_ ?_
         rotate_left
         ·simp only [putAll, Act.put, List.setIfInBounds_toArray, List.set_cons_zero, List.set_cons_succ]
          rfl
         refine one_ (i := 6) (N := some 90) bz_20 rfl rfl (one_of HT_.out (by kernel_rfl)) (by decide) (fun K hK => ?_)
         refine Kd.R_lit_step (Kd.int .u8) _ 5 ?hg (N := 90) ?hd (xs := ([(rd_T23 t396 x14_2).f2] : List Int)) (inner := [.int .u8 ((rd_T23 t396 x14_2).f2)]) (ok := fun _ => True) (okp := fun _ => True) ?hr ?hp (fun _ hk => hk) trivial (Below.refl _ _) (Nat.le_refl _) (by simp) ?_; (case hd => rfl); (case hg => rfl); (case hr => first | (go_simp; done) | (go_simp; rfl)); (case hp => exact (Reps.one (show Kd.M (Kd.int .u8) _ _ _ ((rd_T23 t396 x14_2).f2) [.int .u8 ((rd_T23 t396 x14_2).f2)] from rfl) (Reps.none _ _)))
         intro v409 w61 ho62 hb hg_ hnew_
         clear hg_ hnew_
         (first | rw [← Ny408.out] at ho62 | (simp only [Int.reduceToNat] at ho62; rw [← Ny408.out] at ho62))
         replace HO_400003 := Aside0.mk (Kd.R_below (ky_ HO_400003) hb)
         have HO410 := Aside0.mk (Kd.R_lower (Kd.R_new' (Kd.R_new' ho62 (Kd.R_lt (ky_ HO406))) (Kd.R_lt (ky_ HO415))) (below_size (bh_ HB)))
         replace HO406 := Aside0.mk (Kd.R_elder' (ky_ HO406) (Kd.R_base ho62) hb)
         replace HO415 := Aside0.mk (Kd.R_elder' (ky_ HO415) (Kd.R_base ho62) hb)
         replace BK399 := bb_ BK399 hb
         replace BK401 := bb_ BK401 hb
         replace HB := bs_ HB hb
         clear hb ho62
         refine hK.out _ _ (k3_ BK401) (fun hHeld => ?_)
         clear hK K
         refine nm_ 90 ?_
         exact nx_ (hJ2_6_13_19_24_25 (v409, v414) _ ⟨hHeld, (by (with_reducible repeat (first | apply Kd.R_alloc | apply Kd.R_drewN | apply Kd.R_drew)); exact Kd.R_mono HO406.out (fun _ hk => ⟨hk.2, hk.1⟩)), (by (with_reducible repeat (first | apply Kd.R_alloc | apply Kd.R_drewN | apply Kd.R_drew)); exact Kd.R_mono HO410.out (fun _ hk => ⟨hk.1.2, hk.2⟩)), (ky_ HO415), (ky_ HO_400003), (bq_ BK399), (bq_ BK401), (bh_ HB)⟩)
       intro hJ2_13_19_24_25
       refine join_ (σ := Value) 8 bz_32 (fun s_ => [(86, .string t407), (90, s_), (91, .string (strOfNums y408)), (97, .string t411), (87, .string (t407 ++ (⟨#[32, 49, 32]⟩ : ByteArray))), (92, .string ((t407 ++ (⟨#[32, 49, 32]⟩ : ByteArray)) ++ (strOfNums y408))), (93, .string (((t407 ++ (⟨#[32, 49, 32]⟩ : ByteArray)) ++ (strOfNums y408)) ++ (⟨#[10]⟩ : ByteArray))), (98, .string ((((t407 ++ (⟨#[32, 49, 32]⟩ : ByteArray)) ++ (strOfNums y408)) ++ (⟨#[10]⟩ : ByteArray)) ++ t411)), (99, .string (((((t407 ++ (⟨#[32, 49, 32]⟩ : ByteArray)) ++ (strOfNums y408)) ++ (⟨#[10]⟩ : ByteArray)) ++ t411) ++ (⟨#[32]⟩ : ByteArray)))]) (fun s_ w' => (w'.cell? ⟨gb401, 0, none⟩ = some (.int .i64 ((rd_T23 t396 x14_2).f0)) ∧ w'.cell? ⟨gb401, 1, none⟩ = some (.int .i64 ((rd_T23 t396 x14_2).f1)) ∧ w'.cell? ⟨gb401, 2, none⟩ = some (.int .u8 ((rd_T23 t396 x14_2).f2))) ∧ (Kd.R (Kd.int .u8) 5 w' w.heap.size (fun k_ => some k_ ≠ (s_ : Value).ownBlock) v405 y404) ∧ (Kd.R (Kd.int .u8) 5 w' w.heap.size (fun k_ => some k_ ≠ (v405 : Value).ownBlock) s_ y408) ∧ (Kd.R k23 23 w' w.heap.size (fun k_ => k_ ≠ gb401) (.slice (some ad400) t396.length co13) t396) ∧ (w'.heap[gb399]? = some (.cells #[.int .i64 0, .int .i64 0, .int .u8 43, .slice (some ad400) t396.length co13] 26 (0, 0))) ∧ (w'.heap[gb401]? = some (.cells #[.int .i64 ((rd_T23 t396 x14_2).f0), .int .i64 ((rd_T23 t396 x14_2).f1), .int .u8 ((rd_T23 t396 x14_2).f2)] 23 (0, 0))) ∧ (Below w.heap.size w w')) ?_ ?_
       ·as_aux_lemma =>
         clear HO_400003 HO406 BK399 BK401 HB
         rintro v409 w59 ⟨hHeld, h0_, h1_, h2_, h3_, h4_, h5_⟩
         have HO406 := Aside0.mk h0_; have HO410 := Aside0.mk h1_; have HO_400003 := Aside0.mk h2_; have BK399 := Aside0.mk h3_; have BK401 := Aside0.mk h4_; have HB := Aside0.mk h5_; clear h0_ h1_ h2_ h3_ h4_ h5_
         refine norm_ (a' := ?_) ?_ ?_
         rotate_left
         ·simp only [putAll, Act.put, List.setIfInBounds_toArray, List.set_cons_zero, List.set_cons_succ]
          rfl
         refine two_ (i := 19) (j := 24) (Ni := some 103) (Nj := some 108) bz_33 bz_23 rfl rfl rfl rfl (two_of HT_.out (by kernel_rfl)) (by decide) (by decide) (fun K hK => ?_) (fun K hK => ?_)
         ·refine gq_ Tryz.func22 (by kernel_rfl) rfl #[.int .i64 (wrap64 (((rd_T23 t396 x14_2).f1) - 1))] (by rfl) rfl rfl ?_
          with_reducible refine (num_Dec.calls (wrap64 (((rd_T23 t396 x14_2).f1) - 1)) t412 _ A48.out ?tb58_).mono ?_
          (case tb58_ => exact tb_ HTAB HB)
          rintro e w60 ⟨rfl, hb⟩
          refine ⟨_, rfl, ?_⟩
          replace HO_400003 := Aside0.mk (Kd.R_below (ky_ HO_400003) hb)
          replace HO406 := Aside0.mk (Kd.R_below (ky_ HO406) hb)
          replace HO410 := Aside0.mk (Kd.R_below (ky_ HO410) hb)
          replace BK399 := bb_ BK399 hb
          replace BK401 := bb_ BK401 hb
          replace HB := bs_ HB hb
          (try clear hb)
          refine hK.out _ _ (k3_ BK401) (fun hHeld => ?_)
          clear hK K
          refine nm_ 103 ?_
          refine pu_ 20 104 (lb_ 29 14680063) rfl rfl (ao_ HT_) ?_
          refine pu_ 21 105 (lb_ 29 16777215) rfl rfl (ao_ HT_) ?_
          exact nx_ (hJ2_6_7_13_19 (v409) _ ⟨hHeld, (ky_ HO406), (ky_ HO410), (ky_ HO_400003), (bq_ BK399), (bq_ BK401), (bh_ HB)⟩)
         skip
         refine Kd.R_lit_step (Kd.int .u8) _ 5 ?hg (N := 108) ?hd (xs := ([(rd_T23 t396 x14_2).f2] : List Int)) (inner := [.int .u8 ((rd_T23 t396 x14_2).f2)]) (ok := fun _ => True) (okp := fun _ => True) ?hr ?hp (fun _ hk => hk) trivial (Below.refl _ _) (Nat.le_refl _) (by simp) ?_; (case hd => rfl); (case hg => rfl); (case hr => first | (go_simp; done) | (go_simp; rfl)); (case hp => exact (Reps.one (show Kd.M (Kd.int .u8) _ _ _ ((rd_T23 t396 x14_2).f2) [.int .u8 ((rd_T23 t396 x14_2).f2)] from rfl) (Reps.none _ _)))
         intro v414 w60 ho61 hb hg_ hnew_
         clear hg_ hnew_
         (first | rw [← Ny413.out] at ho61 | (simp only [Int.reduceToNat] at ho61; rw [← Ny413.out] at ho61))
         replace HO_400003 := Aside0.mk (Kd.R_below (ky_ HO_400003) hb)
         have HO415 := Aside0.mk (Kd.R_lower (Kd.R_new' (Kd.R_new' ho61 (Kd.R_lt (ky_ HO406))) (Kd.R_lt (ky_ HO410))) (below_size (bh_ HB)))
         replace HO406 := Aside0.mk (Kd.R_elder' (ky_ HO406) (Kd.R_base ho61) hb)
         replace HO410 := Aside0.mk (Kd.R_elder' (ky_ HO410) (Kd.R_base ho61) hb)
         replace BK399 := bb_ BK399 hb
         replace BK401 := bb_ BK401 hb
         replace HB := bs_ HB hb
         clear hb ho61
         refine hK.out _ _ (k3_ BK401) (fun hHeld => ?_)
         clear hK K
         refine nm_ 108 ?_
         exact nx_ (hJ2_6_7_13_24 (v409, v414) _ ⟨hHeld, (ky_ HO406), (ky_ HO410), (by (with_reducible repeat (first | apply Kd.R_alloc | apply Kd.R_drewN | apply Kd.R_drew)); exact Kd.R_mono HO415.out (fun _ hk => ⟨hk.1.2, hk.2⟩)), (ky_ HO_400003), (bq_ BK399), (bq_ BK401), (bh_ HB)⟩)
       intro hJ2_6_7_13
       refine join_ (σ := Value × Value) 10 bz_34 (fun s_ => [(86, .string t407), (90, s_.1), (91, .string (strOfNums y408)), (108, s_.2), (87, .string (t407 ++ (⟨#[32, 49, 32]⟩ : ByteArray))), (92, .string ((t407 ++ (⟨#[32, 49, 32]⟩ : ByteArray)) ++ (strOfNums y408))), (93, .string (((t407 ++ (⟨#[32, 49, 32]⟩ : ByteArray)) ++ (strOfNums y408)) ++ (⟨#[10]⟩ : ByteArray)))]) (fun s_ w' => (w'.cell? ⟨gb401, 0, none⟩ = some (.int .i64 ((rd_T23 t396 x14_2).f0)) ∧ w'.cell? ⟨gb401, 1, none⟩ = some (.int .i64 ((rd_T23 t396 x14_2).f1)) ∧ w'.cell? ⟨gb401, 2, none⟩ = some (.int .u8 ((rd_T23 t396 x14_2).f2))) ∧ (Kd.R (Kd.int .u8) 5 w' w.heap.size (fun k_ => some k_ ≠ (s_.1 : Value).ownBlock ∧ some k_ ≠ (s_.2 : Value).ownBlock) v405 y404) ∧ (Kd.R (Kd.int .u8) 5 w' w.heap.size (fun k_ => some k_ ≠ (v405 : Value).ownBlock ∧ some k_ ≠ (s_.2 : Value).ownBlock) s_.1 y408) ∧ (Kd.R (Kd.int .u8) 5 w' w.heap.size (fun k_ => some k_ ≠ (v405 : Value).ownBlock ∧ some k_ ≠ (s_.1 : Value).ownBlock) s_.2 y413) ∧ (Kd.R k23 23 w' w.heap.size (fun k_ => k_ ≠ gb401) (.slice (some ad400) t396.length co13) t396) ∧ (w'.heap[gb399]? = some (.cells #[.int .i64 0, .int .i64 0, .int .u8 43, .slice (some ad400) t396.length co13] 26 (0, 0))) ∧ (w'.heap[gb401]? = some (.cells #[.int .i64 ((rd_T23 t396 x14_2).f0), .int .i64 ((rd_T23 t396 x14_2).f1), .int .u8 ((rd_T23 t396 x14_2).f2)] 23 (0, 0))) ∧ (Below w.heap.size w w')) ?_ ?_
       ·as_aux_lemma =>
         clear HO_400003 HO406 BK399 BK401 HB
         rintro ⟨v409, v414⟩ w60 ⟨hHeld, h0_, h1_, h2_, h3_, h4_, h5_, h6_⟩
         (try dsimp only at hHeld); (try dsimp only at h0_); (try dsimp only at h1_); (try dsimp only at h2_); (try dsimp only at h3_); (try dsimp only at h4_); (try dsimp only at h5_); (try dsimp only at h6_)
         have HO406 := Aside0.mk h0_; have HO410 := Aside0.mk h1_; have HO415 := Aside0.mk h2_; have HO_400003 := Aside0.mk h3_; have BK399 := Aside0.mk h4_; have BK401 := Aside0.mk h5_; have HB := Aside0.mk h6_; clear h0_ h1_ h2_ h3_ h4_ h5_ h6_
         refine norm_ (a' := ?_) ?_ ?_
         rotate_left
         ·simp only [putAll, Act.put, List.setIfInBounds_toArray, List.set_cons_zero, List.set_cons_succ]
          rfl
         refine two_ (i := 13) (j := 25) (Ni := some 97) (Nj := some 109) bz_35 bz_25 rfl rfl rfl rfl (two_of HT_.out (by kernel_rfl)) (by decide) (by decide) (fun K hK => ?_) (fun K hK => ?_)
         ·refine gq_ Tryz.func22 (by kernel_rfl) rfl #[.int .i64 (wrap64 (((rd_T23 t396 x14_2).f0) + 1))] (by rfl) rfl rfl ?_
          with_reducible refine (num_Dec.calls (wrap64 (((rd_T23 t396 x14_2).f0) + 1)) t411 _ A45.out ?tb56_).mono ?_
          (case tb56_ => exact tb_ HTAB HB)
          rintro e w61 ⟨rfl, hb⟩
          refine ⟨_, rfl, ?_⟩
          replace HO_400003 := Aside0.mk (Kd.R_below (ky_ HO_400003) hb)
          replace HO406 := Aside0.mk (Kd.R_below (ky_ HO406) hb)
          replace HO410 := Aside0.mk (Kd.R_below (ky_ HO410) hb)
          replace HO415 := Aside0.mk (Kd.R_below (ky_ HO415) hb)
          replace BK399 := bb_ BK399 hb
          replace BK401 := bb_ BK401 hb
          replace HB := bs_ HB hb
          (try clear hb)
          refine hK.out _ _ (k3_ BK401) (fun hHeld => ?_)
          clear hK K
          refine nm_ 97 ?_
          refine pu_ 14 98 (lb_ 29 29851647) rfl rfl (ao_ HT_) ?_
          refine pu_ 15 99 (lb_ 29 29884415) rfl rfl (ao_ HT_) ?_
          exact nx_ (hJ2_6_7_13_24 (v409, v414) _ ⟨hHeld, (ky_ HO406), (ky_ HO410), (ky_ HO415), (ky_ HO_400003), (bq_ BK399), (bq_ BK401), (bh_ HB)⟩)
         skip
         have hcv61 := own_string (P := Tryz.prog) Tryz.underlying39 Tryz.underlying5 Tryz.underlying9 (Kd.own_of_R HO415.out)
         refine value_ (w1 := ?_) (v := ?_) (by rfl) rfl ?_ ?_
         rotate_left 2
         ·go_simp
          constructor
          ·rfl
          rfl
         clear hcv61
         refine hK.out _ _ (k3_ BK401) (fun hHeld => ?_)
         clear hK K
         refine nm_ 109 ?_
         exact nx_ (hJ2_6_7_24_25 (v409, v414) _ ⟨hHeld, (ky_ HO406), (ky_ HO410), (ky_ HO415), (ky_ HO_400003), (bq_ BK399), (bq_ BK401), (bh_ HB)⟩)
       intro hJ2_6_7_24
       refine join_ (σ := Value) 12 bz_36 (fun s_ => [(86, .string t407), (90, s_), (97, .string t411), (103, .string t412), (87, .string (t407 ++ (⟨#[32, 49, 32]⟩ : ByteArray)))]) (fun s_ w' => (w'.cell? ⟨gb401, 0, none⟩ = some (.int .i64 ((rd_T23 t396 x14_2).f0)) ∧ w'.cell? ⟨gb401, 1, none⟩ = some (.int .i64 ((rd_T23 t396 x14_2).f1)) ∧ w'.cell? ⟨gb401, 2, none⟩ = some (.int .u8 ((rd_T23 t396 x14_2).f2))) ∧ (Kd.R (Kd.int .u8) 5 w' w.heap.size (fun k_ => some k_ ≠ (s_ : Value).ownBlock) v405 y404) ∧ (Kd.R (Kd.int .u8) 5 w' w.heap.size (fun k_ => some k_ ≠ (v405 : Value).ownBlock) s_ y408) ∧ (Kd.R k23 23 w' w.heap.size (fun k_ => k_ ≠ gb401) (.slice (some ad400) t396.length co13) t396) ∧ (w'.heap[gb399]? = some (.cells #[.int .i64 0, .int .i64 0, .int .u8 43, .slice (some ad400) t396.length co13] 26 (0, 0))) ∧ (w'.heap[gb401]? = some (.cells #[.int .i64 ((rd_T23 t396 x14_2).f0), .int .i64 ((rd_T23 t396 x14_2).f1), .int .u8 ((rd_T23 t396 x14_2).f2)] 23 (0, 0))) ∧ (Below w.heap.size w w')) ?_ ?_
       ·as_aux_lemma =>
         clear HO_400003 HO406 BK399 BK401 HB
         rintro v409 w59 ⟨hHeld, h0_, h1_, h2_, h3_, h4_, h5_⟩
         have HO406 := Aside0.mk h0_; have HO410 := Aside0.mk h1_; have HO_400003 := Aside0.mk h2_; have BK399 := Aside0.mk h3_; have BK401 := Aside0.mk h4_; have HB := Aside0.mk h5_; clear h0_ h1_ h2_ h3_ h4_ h5_
         refine norm_ (a' := ?_) ?_ ?_
         rotate_left
         ·simp only [putAll, Act.put, List.setIfInBounds_toArray, List.set_cons_zero, List.set_cons_succ]
          rfl
         refine two_ (i := 7) (j := 24) (Ni := some 91) (Nj := some 108) bz_37 bz_27 rfl rfl rfl rfl (two_of HT_.out (by kernel_rfl)) (by decide) (by decide) (fun K hK => ?_) (fun K hK => ?_)
         ·have hcv60 := own_string (P := Tryz.prog) Tryz.underlying39 Tryz.underlying5 Tryz.underlying9 (Kd.own_of_R HO410.out)
          refine value_ (w1 := ?_) (v := ?_) (by rfl) rfl ?_ ?_
          rotate_left 2
          ·go_simp
           constructor
           ·rfl
           rfl
          clear hcv60
          refine hK.out _ _ (k3_ BK401) (fun hHeld => ?_)
          clear hK K
          refine nm_ 91 ?_
          refine pu_ 8 92 (lb_ 29 13581823) rfl rfl (ao_ HT_) ?_
          refine pu_ 9 93 (lb_ 29 13582335) rfl rfl (ao_ HT_) ?_
          refine pu_ 14 98 (lb_ 29 13598719) rfl rfl (ao_ HT_) ?_
          refine pu_ 15 99 (lb_ 29 13631487) rfl rfl (ao_ HT_) ?_
          refine pu_ 20 104 (lb_ 29 14680063) rfl rfl (ao_ HT_) ?_
          refine pu_ 21 105 (lb_ 29 16777215) rfl rfl (ao_ HT_) ?_
          exact nx_ (hJ2_6_7_13_19 (v409) _ ⟨hHeld, (ky_ HO406), (ky_ HO410), (ky_ HO_400003), (bq_ BK399), (bq_ BK401), (bh_ HB)⟩)
         skip
         refine Kd.R_lit_step (Kd.int .u8) _ 5 ?hg (N := 108) ?hd (xs := ([(rd_T23 t396 x14_2).f2] : List Int)) (inner := [.int .u8 ((rd_T23 t396 x14_2).f2)]) (ok := fun _ => True) (okp := fun _ => True) ?hr ?hp (fun _ hk => hk) trivial (Below.refl _ _) (Nat.le_refl _) (by simp) ?_; (case hd => rfl); (case hg => rfl); (case hr => first | (go_simp; done) | (go_simp; rfl)); (case hp => exact (Reps.one (show Kd.M (Kd.int .u8) _ _ _ ((rd_T23 t396 x14_2).f2) [.int .u8 ((rd_T23 t396 x14_2).f2)] from rfl) (Reps.none _ _)))
         intro v414 w60 ho61 hb hg_ hnew_
         clear hg_ hnew_
         (first | rw [← Ny413.out] at ho61 | (simp only [Int.reduceToNat] at ho61; rw [← Ny413.out] at ho61))
         replace HO_400003 := Aside0.mk (Kd.R_below (ky_ HO_400003) hb)
         have HO415 := Aside0.mk (Kd.R_lower (Kd.R_new' (Kd.R_new' ho61 (Kd.R_lt (ky_ HO406))) (Kd.R_lt (ky_ HO410))) (below_size (bh_ HB)))
         replace HO406 := Aside0.mk (Kd.R_elder' (ky_ HO406) (Kd.R_base ho61) hb)
         replace HO410 := Aside0.mk (Kd.R_elder' (ky_ HO410) (Kd.R_base ho61) hb)
         replace BK399 := bb_ BK399 hb
         replace BK401 := bb_ BK401 hb
         replace HB := bs_ HB hb
         clear hb ho61
         refine hK.out _ _ (k3_ BK401) (fun hHeld => ?_)
         clear hK K
         refine nm_ 108 ?_
         exact nx_ (hJ2_6_13_19_24 (v409, v414) _ ⟨hHeld, (ky_ HO406), (ky_ HO410), (by (with_reducible repeat (first | apply Kd.R_alloc | apply Kd.R_drewN | apply Kd.R_drew)); exact Kd.R_mono HO415.out (fun _ hk => ⟨hk.1.2, hk.2⟩)), (ky_ HO_400003), (bq_ BK399), (bq_ BK401), (bh_ HB)⟩)
       intro hJ2_6_13_19
       refine join_ (σ := Value × Value) 12 bz_38 (fun s_ => [(86, .string t407), (90, s_.1), (97, .string t411), (108, s_.2), (87, .string (t407 ++ (⟨#[32, 49, 32]⟩ : ByteArray)))]) (fun s_ w' => (w'.cell? ⟨gb401, 0, none⟩ = some (.int .i64 ((rd_T23 t396 x14_2).f0)) ∧ w'.cell? ⟨gb401, 1, none⟩ = some (.int .i64 ((rd_T23 t396 x14_2).f1)) ∧ w'.cell? ⟨gb401, 2, none⟩ = some (.int .u8 ((rd_T23 t396 x14_2).f2))) ∧ (Kd.R (Kd.int .u8) 5 w' w.heap.size (fun k_ => some k_ ≠ (s_.1 : Value).ownBlock ∧ some k_ ≠ (s_.2 : Value).ownBlock) v405 y404) ∧ (Kd.R (Kd.int .u8) 5 w' w.heap.size (fun k_ => some k_ ≠ (v405 : Value).ownBlock ∧ some k_ ≠ (s_.2 : Value).ownBlock) s_.1 y408) ∧ (Kd.R (Kd.int .u8) 5 w' w.heap.size (fun k_ => some k_ ≠ (v405 : Value).ownBlock ∧ some k_ ≠ (s_.1 : Value).ownBlock) s_.2 y413) ∧ (Kd.R k23 23 w' w.heap.size (fun k_ => k_ ≠ gb401) (.slice (some ad400) t396.length co13) t396) ∧ (w'.heap[gb399]? = some (.cells #[.int .i64 0, .int .i64 0, .int .u8 43, .slice (some ad400) t396.length co13] 26 (0, 0))) ∧ (w'.heap[gb401]? = some (.cells #[.int .i64 ((rd_T23 t396 x14_2).f0), .int .i64 ((rd_T23 t396 x14_2).f1), .int .u8 ((rd_T23 t396 x14_2).f2)] 23 (0, 0))) ∧ (Below w.heap.size w w')) ?_ ?_
       ·as_aux_lemma =>
         clear HO_400003 HO406 BK399 BK401 HB
         rintro ⟨v409, v414⟩ w60 ⟨hHeld, h0_, h1_, h2_, h3_, h4_, h5_, h6_⟩
         (try dsimp only at hHeld); (try dsimp only at h0_); (try dsimp only at h1_); (try dsimp only at h2_); (try dsimp only at h3_); (try dsimp only at h4_); (try dsimp only at h5_); (try dsimp only at h6_)
         have HO406 := Aside0.mk h0_; have HO410 := Aside0.mk h1_; have HO415 := Aside0.mk h2_; have HO_400003 := Aside0.mk h3_; have BK399 := Aside0.mk h4_; have BK401 := Aside0.mk h5_; have HB := Aside0.mk h6_; clear h0_ h1_ h2_ h3_ h4_ h5_ h6_
         refine norm_ (a' := ?_) ?_ ?_
         rotate_left
         ·simp only [putAll, Act.put, List.setIfInBounds_toArray, List.set_cons_zero, List.set_cons_succ]
          rfl
         refine three_ (i := 7) (j := 19) (k := 25) (Ni := some 91) (Nj := some 103) (Nk := some 109) bz_39 bz_27 bz_29 rfl rfl rfl rfl rfl rfl (three_of HT_.out (by kernel_rfl)) (by decide) (by decide) (by decide) (fun K hK => ?_) (fun K hK => ?_) (fun K hK => ?_)
         ·have hcv61 := own_string (P := Tryz.prog) Tryz.underlying39 Tryz.underlying5 Tryz.underlying9 (Kd.own_of_R HO410.out)
          refine value_ (w1 := ?_) (v := ?_) (by rfl) rfl ?_ ?_
          rotate_left 2
          ·go_simp
           constructor
           ·rfl
           rfl
          clear hcv61
          refine hK.out _ _ (k3_ BK401) (fun hHeld => ?_)
          clear hK K
          refine nm_ 91 ?_
          refine pu_ 8 92 (lb_ 29 29834751) rfl rfl (ao_ HT_) ?_
          refine pu_ 9 93 (lb_ 29 29835263) rfl rfl (ao_ HT_) ?_
          refine pu_ 14 98 (lb_ 29 29851647) rfl rfl (ao_ HT_) ?_
          refine pu_ 15 99 (lb_ 29 29884415) rfl rfl (ao_ HT_) ?_
          exact nx_ (hJ2_6_7_13_24 (v409, v414) _ ⟨hHeld, (ky_ HO406), (ky_ HO410), (ky_ HO415), (ky_ HO_400003), (bq_ BK399), (bq_ BK401), (bh_ HB)⟩)
         ·refine gq_ Tryz.func22 (by kernel_rfl) rfl #[.int .i64 (wrap64 (((rd_T23 t396 x14_2).f1) - 1))] (by rfl) rfl rfl ?_
          with_reducible refine (num_Dec.calls (wrap64 (((rd_T23 t396 x14_2).f1) - 1)) t412 _ A48.out ?tb54_).mono ?_
          (case tb54_ => exact tb_ HTAB HB)
          rintro e w61 ⟨rfl, hb⟩
          refine ⟨_, rfl, ?_⟩
          replace HO_400003 := Aside0.mk (Kd.R_below (ky_ HO_400003) hb)
          replace HO406 := Aside0.mk (Kd.R_below (ky_ HO406) hb)
          replace HO410 := Aside0.mk (Kd.R_below (ky_ HO410) hb)
          replace HO415 := Aside0.mk (Kd.R_below (ky_ HO415) hb)
          replace BK399 := bb_ BK399 hb
          replace BK401 := bb_ BK401 hb
          replace HB := bs_ HB hb
          (try clear hb)
          refine hK.out _ _ (k3_ BK401) (fun hHeld => ?_)
          clear hK K
          refine nm_ 103 ?_
          exact nx_ (hJ2_6_13_19_24 (v409, v414) _ ⟨hHeld, (ky_ HO406), (ky_ HO410), (ky_ HO415), (ky_ HO_400003), (bq_ BK399), (bq_ BK401), (bh_ HB)⟩)
         skip
         have hcv61 := own_string (P := Tryz.prog) Tryz.underlying39 Tryz.underlying5 Tryz.underlying9 (Kd.own_of_R HO415.out)
         refine value_ (w1 := ?_) (v := ?_) (by rfl) rfl ?_ ?_
         rotate_left 2
         ·go_simp
          constructor
          ·rfl
          rfl
         clear hcv61
         refine hK.out _ _ (k3_ BK401) (fun hHeld => ?_)
         clear hK K
         refine nm_ 109 ?_
         exact nx_ (hJ2_6_13_24_25 (v409, v414) _ ⟨hHeld, (ky_ HO406), (ky_ HO410), (ky_ HO415), (ky_ HO_400003), (bq_ BK399), (bq_ BK401), (bh_ HB)⟩)
       intro hJ2_6_13_24
       refine join_ (σ := Value × Value) 12 bz_40 (fun s_ => [(86, .string t407), (90, s_.1), (108, s_.2), (109, .string (strOfNums y413)), (87, .string (t407 ++ (⟨#[32, 49, 32]⟩ : ByteArray)))]) (fun s_ w' => (w'.cell? ⟨gb401, 0, none⟩ = some (.int .i64 ((rd_T23 t396 x14_2).f0)) ∧ w'.cell? ⟨gb401, 1, none⟩ = some (.int .i64 ((rd_T23 t396 x14_2).f1)) ∧ w'.cell? ⟨gb401, 2, none⟩ = some (.int .u8 ((rd_T23 t396 x14_2).f2))) ∧ (Kd.R (Kd.int .u8) 5 w' w.heap.size (fun k_ => some k_ ≠ (s_.1 : Value).ownBlock ∧ some k_ ≠ (s_.2 : Value).ownBlock) v405 y404) ∧ (Kd.R (Kd.int .u8) 5 w' w.heap.size (fun k_ => some k_ ≠ (v405 : Value).ownBlock ∧ some k_ ≠ (s_.2 : Value).ownBlock) s_.1 y408) ∧ (Kd.R (Kd.int .u8) 5 w' w.heap.size (fun k_ => some k_ ≠ (v405 : Value).ownBlock ∧ some k_ ≠ (s_.1 : Value).ownBlock) s_.2 y413) ∧ (Kd.R k23 23 w' w.heap.size (fun k_ => k_ ≠ gb401) (.slice (some ad400) t396.length co13) t396) ∧ (w'.heap[gb399]? = some (.cells #[.int .i64 0, .int .i64 0, .int .u8 43, .slice (some ad400) t396.length co13] 26 (0, 0))) ∧ (w'.heap[gb401]? = some (.cells #[.int .i64 ((rd_T23 t396 x14_2).f0), .int .i64 ((rd_T23 t396 x14_2).f1), .int .u8 ((rd_T23 t396 x14_2).f2)] 23 (0, 0))) ∧ (Below w.heap.size w w')) ?_ ?_
       ·as_aux_lemma =>
         clear HO_400003 HO406 BK399 BK401 HB
         rintro ⟨v409, v414⟩ w60 ⟨hHeld, h0_, h1_, h2_, h3_, h4_, h5_, h6_⟩
         (try dsimp only at hHeld); (try dsimp only at h0_); (try dsimp only at h1_); (try dsimp only at h2_); (try dsimp only at h3_); (try dsimp only at h4_); (try dsimp only at h5_); (try dsimp only at h6_)
         have HO406 := Aside0.mk h0_; have HO410 := Aside0.mk h1_; have HO415 := Aside0.mk h2_; have HO_400003 := Aside0.mk h3_; have BK399 := Aside0.mk h4_; have BK401 := Aside0.mk h5_; have HB := Aside0.mk h6_; clear h0_ h1_ h2_ h3_ h4_ h5_ h6_
         refine norm_ (a' := ?_) ?_ ?_
         rotate_left
         ·simp only [putAll, Act.put, List.setIfInBounds_toArray, List.set_cons_zero, List.set_cons_succ]
          rfl
         refine two_ (i := 7) (j := 13) (Ni := some 91) (Nj := some 97) bz_41 bz_29 rfl rfl rfl rfl (two_of HT_.out (by kernel_rfl)) (by decide) (by decide) (fun K hK => ?_) (fun K hK => ?_)
         ·have hcv61 := own_string (P := Tryz.prog) Tryz.underlying39 Tryz.underlying5 Tryz.underlying9 (Kd.own_of_R HO410.out)
          refine value_ (w1 := ?_) (v := ?_) (by rfl) rfl ?_ ?_
          rotate_left 2
          ·go_simp
           constructor
           ·rfl
           rfl
          clear hcv61
          refine hK.out _ _ (k3_ BK401) (fun hHeld => ?_)
          clear hK K
          refine nm_ 91 ?_
          refine pu_ 8 92 (lb_ 29 63380991) rfl rfl (ao_ HT_) ?_
          refine pu_ 9 93 (lb_ 29 63381503) rfl rfl (ao_ HT_) ?_
          exact nx_ (hJ2_6_7_24_25 (v409, v414) _ ⟨hHeld, (ky_ HO406), (ky_ HO410), (ky_ HO415), (ky_ HO_400003), (bq_ BK399), (bq_ BK401), (bh_ HB)⟩)
         skip
         refine gq_ Tryz.func22 (by kernel_rfl) rfl #[.int .i64 (wrap64 (((rd_T23 t396 x14_2).f0) + 1))] (by rfl) rfl rfl ?_
         with_reducible refine (num_Dec.calls (wrap64 (((rd_T23 t396 x14_2).f0) + 1)) t411 _ A45.out ?tb52_).mono ?_
         (case tb52_ => exact tb_ HTAB HB)
         rintro e w61 ⟨rfl, hb⟩
         refine ⟨_, rfl, ?_⟩
         replace HO_400003 := Aside0.mk (Kd.R_below (ky_ HO_400003) hb)
         replace HO406 := Aside0.mk (Kd.R_below (ky_ HO406) hb)
         replace HO410 := Aside0.mk (Kd.R_below (ky_ HO410) hb)
         replace HO415 := Aside0.mk (Kd.R_below (ky_ HO415) hb)
         replace BK399 := bb_ BK399 hb
         replace BK401 := bb_ BK401 hb
         replace HB := bs_ HB hb
         (try clear hb)
         refine hK.out _ _ (k3_ BK401) (fun hHeld => ?_)
         clear hK K
         refine nm_ 97 ?_
         exact nx_ (hJ2_6_13_24_25 (v409, v414) _ ⟨hHeld, (ky_ HO406), (ky_ HO410), (ky_ HO415), (ky_ HO_400003), (bq_ BK399), (bq_ BK401), (bh_ HB)⟩)
       intro hJ2_6_24_25
       refine join_ (σ := Value) 12 bz_42 (fun s_ => [(86, .string t407), (97, .string t411), (103, .string t412), (108, s_), (87, .string (t407 ++ (⟨#[32, 49, 32]⟩ : ByteArray)))]) (fun s_ w' => (w'.cell? ⟨gb401, 0, none⟩ = some (.int .i64 ((rd_T23 t396 x14_2).f0)) ∧ w'.cell? ⟨gb401, 1, none⟩ = some (.int .i64 ((rd_T23 t396 x14_2).f1)) ∧ w'.cell? ⟨gb401, 2, none⟩ = some (.int .u8 ((rd_T23 t396 x14_2).f2))) ∧ (Kd.R (Kd.int .u8) 5 w' w.heap.size (fun k_ => some k_ ≠ (s_ : Value).ownBlock) v405 y404) ∧ (Kd.R (Kd.int .u8) 5 w' w.heap.size (fun k_ => some k_ ≠ (v405 : Value).ownBlock) s_ y413) ∧ (Kd.R k23 23 w' w.heap.size (fun k_ => k_ ≠ gb401) (.slice (some ad400) t396.length co13) t396) ∧ (w'.heap[gb399]? = some (.cells #[.int .i64 0, .int .i64 0, .int .u8 43, .slice (some ad400) t396.length co13] 26 (0, 0))) ∧ (w'.heap[gb401]? = some (.cells #[.int .i64 ((rd_T23 t396 x14_2).f0), .int .i64 ((rd_T23 t396 x14_2).f1), .int .u8 ((rd_T23 t396 x14_2).f2)] 23 (0, 0))) ∧ (Below w.heap.size w w')) ?_ ?_
       ·as_aux_lemma =>
         clear HO_400003 HO406 BK399 BK401 HB
         rintro v414 w59 ⟨hHeld, h0_, h1_, h2_, h3_, h4_, h5_⟩
         have HO406 := Aside0.mk h0_; have HO415 := Aside0.mk h1_; have HO_400003 := Aside0.mk h2_; have BK399 := Aside0.mk h3_; have BK401 := Aside0.mk h4_; have HB := Aside0.mk h5_; clear h0_ h1_ h2_ h3_ h4_ h5_
         refine norm_ (a' := ?_) ?_ ?_
         rotate_left
         ·simp only [putAll, Act.put, List.setIfInBounds_toArray, List.set_cons_zero, List.set_cons_succ]
          rfl
         refine two_ (i := 6) (j := 25) (Ni := some 90) (Nj := some 109) bz_27 bz_31 rfl rfl rfl rfl (two_of HT_.out (by kernel_rfl)) (by decide) (by decide) (fun K hK => ?_) (fun K hK => ?_)
         ·refine Kd.R_lit_step (Kd.int .u8) _ 5 ?hg (N := 90) ?hd (xs := ([(rd_T23 t396 x14_2).f2] : List Int)) (inner := [.int .u8 ((rd_T23 t396 x14_2).f2)]) (ok := fun _ => True) (okp := fun _ => True) ?hr ?hp (fun _ hk => hk) trivial (Below.refl _ _) (Nat.le_refl _) (by simp) ?_; (case hd => rfl); (case hg => rfl); (case hr => first | (go_simp; done) | (go_simp; rfl)); (case hp => exact (Reps.one (show Kd.M (Kd.int .u8) _ _ _ ((rd_T23 t396 x14_2).f2) [.int .u8 ((rd_T23 t396 x14_2).f2)] from rfl) (Reps.none _ _)))
          intro v409 w60 ho61 hb hg_ hnew_
          clear hg_ hnew_
          (first | rw [← Ny408.out] at ho61 | (simp only [Int.reduceToNat] at ho61; rw [← Ny408.out] at ho61))
          replace HO_400003 := Aside0.mk (Kd.R_below (ky_ HO_400003) hb)
          have HO410 := Aside0.mk (Kd.R_lower (Kd.R_new' (Kd.R_new' ho61 (Kd.R_lt (ky_ HO406))) (Kd.R_lt (ky_ HO415))) (below_size (bh_ HB)))
          replace HO406 := Aside0.mk (Kd.R_elder' (ky_ HO406) (Kd.R_base ho61) hb)
          replace HO415 := Aside0.mk (Kd.R_elder' (ky_ HO415) (Kd.R_base ho61) hb)
          replace BK399 := bb_ BK399 hb
          replace BK401 := bb_ BK401 hb
          replace HB := bs_ HB hb
          clear hb ho61
          refine hK.out _ _ (k3_ BK401) (fun hHeld => ?_)
          clear hK K
          refine nm_ 90 ?_
          exact nx_ (hJ2_6_13_19_24 (v409, v414) _ ⟨hHeld, (by (with_reducible repeat (first | apply Kd.R_alloc | apply Kd.R_drewN | apply Kd.R_drew)); exact Kd.R_mono HO406.out (fun _ hk => ⟨hk.2, hk.1⟩)), (by (with_reducible repeat (first | apply Kd.R_alloc | apply Kd.R_drewN | apply Kd.R_drew)); exact Kd.R_mono HO410.out (fun _ hk => ⟨hk.1.2, hk.2⟩)), (ky_ HO415), (ky_ HO_400003), (bq_ BK399), (bq_ BK401), (bh_ HB)⟩)
         skip
         have hcv60 := own_string (P := Tryz.prog) Tryz.underlying39 Tryz.underlying5 Tryz.underlying9 (Kd.own_of_R HO415.out)
         refine value_ (w1 := ?_) (v := ?_) (by rfl) rfl ?_ ?_
         rotate_left 2
         ·go_simp
          constructor
          ·rfl
          rfl
         clear hcv60
         refine hK.out _ _ (k3_ BK401) (fun hHeld => ?_)
         clear hK K
         refine nm_ 109 ?_
         exact nx_ (hJ2_13_19_24_25 (v414) _ ⟨hHeld, (ky_ HO406), (ky_ HO415), (ky_ HO_400003), (bq_ BK399), (bq_ BK401), (bh_ HB)⟩)
       intro hJ2_13_19_24
       refine join_ (σ := Value) 12 bz_43 (fun s_ => [(86, .string t407), (97, .string t411), (108, s_), (109, .string (strOfNums y413)), (87, .string (t407 ++ (⟨#[32, 49, 32]⟩ : ByteArray)))]) (fun s_ w' => (w'.cell? ⟨gb401, 0, none⟩ = some (.int .i64 ((rd_T23 t396 x14_2).f0)) ∧ w'.cell? ⟨gb401, 1, none⟩ = some (.int .i64 ((rd_T23 t396 x14_2).f1)) ∧ w'.cell? ⟨gb401, 2, none⟩ = some (.int .u8 ((rd_T23 t396 x14_2).f2))) ∧ (Kd.R (Kd.int .u8) 5 w' w.heap.size (fun k_ => some k_ ≠ (s_ : Value).ownBlock) v405 y404) ∧ (Kd.R (Kd.int .u8) 5 w' w.heap.size (fun k_ => some k_ ≠ (v405 : Value).ownBlock) s_ y413) ∧ (Kd.R k23 23 w' w.heap.size (fun k_ => k_ ≠ gb401) (.slice (some ad400) t396.length co13) t396) ∧ (w'.heap[gb399]? = some (.cells #[.int .i64 0, .int .i64 0, .int .u8 43, .slice (some ad400) t396.length co13] 26 (0, 0))) ∧ (w'.heap[gb401]? = some (.cells #[.int .i64 ((rd_T23 t396 x14_2).f0), .int .i64 ((rd_T23 t396 x14_2).f1), .int .u8 ((rd_T23 t396 x14_2).f2)] 23 (0, 0))) ∧ (Below w.heap.size w w')) ?_ ?_
       ·as_aux_lemma =>
         clear HO_400003 HO406 BK399 BK401 HB
         rintro v414 w59 ⟨hHeld, h0_, h1_, h2_, h3_, h4_, h5_⟩
         have HO406 := Aside0.mk h0_; have HO415 := Aside0.mk h1_; have HO_400003 := Aside0.mk h2_; have BK399 := Aside0.mk h3_; have BK401 := Aside0.mk h4_; have HB := Aside0.mk h5_; clear h0_ h1_ h2_ h3_ h4_ h5_
         refine norm_ (a' := ?_) ?_ ?_
         rotate_left
         ·simp only [putAll, Act.put, List.setIfInBounds_toArray, List.set_cons_zero, List.set_cons_succ]
          rfl
         refine two_ (i := 6) (j := 19) (Ni := some 90) (Nj := some 103) bz_29 bz_31 rfl rfl rfl rfl (two_of HT_.out (by kernel_rfl)) (by decide) (by decide) (fun K hK => ?_) (fun K hK => ?_)
         ·refine Kd.R_lit_step (Kd.int .u8) _ 5 ?hg (N := 90) ?hd (xs := ([(rd_T23 t396 x14_2).f2] : List Int)) (inner := [.int .u8 ((rd_T23 t396 x14_2).f2)]) (ok := fun _ => True) (okp := fun _ => True) ?hr ?hp (fun _ hk => hk) trivial (Below.refl _ _) (Nat.le_refl _) (by simp) ?_; (case hd => rfl); (case hg => rfl); (case hr => first | (go_simp; done) | (go_simp; rfl)); (case hp => exact (Reps.one (show Kd.M (Kd.int .u8) _ _ _ ((rd_T23 t396 x14_2).f2) [.int .u8 ((rd_T23 t396 x14_2).f2)] from rfl) (Reps.none _ _)))
          intro v409 w60 ho61 hb hg_ hnew_
          clear hg_ hnew_
          (first | rw [← Ny408.out] at ho61 | (simp only [Int.reduceToNat] at ho61; rw [← Ny408.out] at ho61))
          replace HO_400003 := Aside0.mk (Kd.R_below (ky_ HO_400003) hb)
          have HO410 := Aside0.mk (Kd.R_lower (Kd.R_new' (Kd.R_new' ho61 (Kd.R_lt (ky_ HO406))) (Kd.R_lt (ky_ HO415))) (below_size (bh_ HB)))
          replace HO406 := Aside0.mk (Kd.R_elder' (ky_ HO406) (Kd.R_base ho61) hb)
          replace HO415 := Aside0.mk (Kd.R_elder' (ky_ HO415) (Kd.R_base ho61) hb)
          replace BK399 := bb_ BK399 hb
          replace BK401 := bb_ BK401 hb
          replace HB := bs_ HB hb
          clear hb ho61
          refine hK.out _ _ (k3_ BK401) (fun hHeld => ?_)
          clear hK K
          refine nm_ 90 ?_
          exact nx_ (hJ2_6_13_24_25 (v409, v414) _ ⟨hHeld, (by (with_reducible repeat (first | apply Kd.R_alloc | apply Kd.R_drewN | apply Kd.R_drew)); exact Kd.R_mono HO406.out (fun _ hk => ⟨hk.2, hk.1⟩)), (by (with_reducible repeat (first | apply Kd.R_alloc | apply Kd.R_drewN | apply Kd.R_drew)); exact Kd.R_mono HO410.out (fun _ hk => ⟨hk.1.2, hk.2⟩)), (ky_ HO415), (ky_ HO_400003), (bq_ BK399), (bq_ BK401), (bh_ HB)⟩)
         skip
         refine gq_ Tryz.func22 (by kernel_rfl) rfl #[.int .i64 (wrap64 (((rd_T23 t396 x14_2).f1) - 1))] (by rfl) rfl rfl ?_
         with_reducible refine (num_Dec.calls (wrap64 (((rd_T23 t396 x14_2).f1) - 1)) t412 _ A48.out ?tb50_).mono ?_
         (case tb50_ => exact tb_ HTAB HB)
         rintro e w60 ⟨rfl, hb⟩
         refine ⟨_, rfl, ?_⟩
         replace HO_400003 := Aside0.mk (Kd.R_below (ky_ HO_400003) hb)
         replace HO406 := Aside0.mk (Kd.R_below (ky_ HO406) hb)
         replace HO415 := Aside0.mk (Kd.R_below (ky_ HO415) hb)
         replace BK399 := bb_ BK399 hb
         replace BK401 := bb_ BK401 hb
         replace HB := bs_ HB hb
         (try clear hb)
         refine hK.out _ _ (k3_ BK401) (fun hHeld => ?_)
         clear hK K
         refine nm_ 103 ?_
         exact nx_ (hJ2_13_19_24_25 (v414) _ ⟨hHeld, (ky_ HO406), (ky_ HO415), (ky_ HO_400003), (bq_ BK399), (bq_ BK401), (bh_ HB)⟩)
       intro hJ2_13_24_25
       refine join_ (σ := Value × Value) 13 bz_44 (fun s_ => [(90, s_.1), (91, .string (strOfNums y408)), (108, s_.2), (109, .string (strOfNums y413))]) (fun s_ w' => (w'.cell? ⟨gb401, 0, none⟩ = some (.int .i64 ((rd_T23 t396 x14_2).f0)) ∧ w'.cell? ⟨gb401, 1, none⟩ = some (.int .i64 ((rd_T23 t396 x14_2).f1)) ∧ w'.cell? ⟨gb401, 2, none⟩ = some (.int .u8 ((rd_T23 t396 x14_2).f2))) ∧ (Kd.R (Kd.int .u8) 5 w' w.heap.size (fun k_ => some k_ ≠ (s_.1 : Value).ownBlock ∧ some k_ ≠ (s_.2 : Value).ownBlock) v405 y404) ∧ (Kd.R (Kd.int .u8) 5 w' w.heap.size (fun k_ => some k_ ≠ (v405 : Value).ownBlock ∧ some k_ ≠ (s_.2 : Value).ownBlock) s_.1 y408) ∧ (Kd.R (Kd.int .u8) 5 w' w.heap.size (fun k_ => some k_ ≠ (v405 : Value).ownBlock ∧ some k_ ≠ (s_.1 : Value).ownBlock) s_.2 y413) ∧ (Kd.R k23 23 w' w.heap.size (fun k_ => k_ ≠ gb401) (.slice (some ad400) t396.length co13) t396) ∧ (w'.heap[gb399]? = some (.cells #[.int .i64 0, .int .i64 0, .int .u8 43, .slice (some ad400) t396.length co13] 26 (0, 0))) ∧ (w'.heap[gb401]? = some (.cells #[.int .i64 ((rd_T23 t396 x14_2).f0), .int .i64 ((rd_T23 t396 x14_2).f1), .int .u8 ((rd_T23 t396 x14_2).f2)] 23 (0, 0))) ∧ (Below w.heap.size w w')) ?_ ?_
       ·as_aux_lemma =>
         clear HO_400003 HO406 BK399 BK401 HB
         rintro ⟨v409, v414⟩ w60 ⟨hHeld, h0_, h1_, h2_, h3_, h4_, h5_, h6_⟩
         (try dsimp only at hHeld); (try dsimp only at h0_); (try dsimp only at h1_); (try dsimp only at h2_); (try dsimp only at h3_); (try dsimp only at h4_); (try dsimp only at h5_); (try dsimp only at h6_)
         have HO406 := Aside0.mk h0_; have HO410 := Aside0.mk h1_; have HO415 := Aside0.mk h2_; have HO_400003 := Aside0.mk h3_; have BK399 := Aside0.mk h4_; have BK401 := Aside0.mk h5_; have HB := Aside0.mk h6_; clear h0_ h1_ h2_ h3_ h4_ h5_ h6_
         refine norm_ (a' := ?_) ?_ ?_
         rotate_left
         ·simp only [putAll, Act.put, List.setIfInBounds_toArray, List.set_cons_zero, List.set_cons_succ]
          rfl
         refine one_ (i := 2) (N := some 86) bz_45 rfl rfl (one_of HT_.out (by kernel_rfl)) (by decide) (fun K hK => ?_)
         refine gq_ Tryz.func22 (by kernel_rfl) rfl #[.int .i64 ((rd_T23 t396 x14_2).f0)] (by rfl) rfl rfl ?_
         with_reducible refine (num_Dec.calls ((rd_T23 t396 x14_2).f0) t407 _ A41.out ?tb48_).mono ?_
         (case tb48_ => exact tb_ HTAB HB)
         rintro e w61 ⟨rfl, hb⟩
         refine ⟨_, rfl, ?_⟩
         replace HO_400003 := Aside0.mk (Kd.R_below (ky_ HO_400003) hb)
         replace HO406 := Aside0.mk (Kd.R_below (ky_ HO406) hb)
         replace HO410 := Aside0.mk (Kd.R_below (ky_ HO410) hb)
         replace HO415 := Aside0.mk (Kd.R_below (ky_ HO415) hb)
         replace BK399 := bb_ BK399 hb
         replace BK401 := bb_ BK401 hb
         replace HB := bs_ HB hb
         (try clear hb)
         refine hK.out _ _ (k3_ BK401) (fun hHeld => ?_)
         clear hK K
         refine nm_ 86 ?_
         refine pu_ 3 87 (lb_ 29 63380735) rfl rfl (ao_ HT_) ?_
         refine pu_ 8 92 (lb_ 29 63380991) rfl rfl (ao_ HT_) ?_
         refine pu_ 9 93 (lb_ 29 63381503) rfl rfl (ao_ HT_) ?_
         exact nx_ (hJ2_6_7_24_25 (v409, v414) _ ⟨hHeld, (ky_ HO406), (ky_ HO410), (ky_ HO415), (ky_ HO_400003), (bq_ BK399), (bq_ BK401), (bh_ HB)⟩)
       intro hJ6_7_24_25
       refine join_ (σ := Value) 11 bz_46 (fun s_ => [(86, .string t407), (90, s_), (91, .string (strOfNums y408)), (87, .string (t407 ++ (⟨#[32, 49, 32]⟩ : ByteArray))), (92, .string ((t407 ++ (⟨#[32, 49, 32]⟩ : ByteArray)) ++ (strOfNums y408))), (93, .string (((t407 ++ (⟨#[32, 49, 32]⟩ : ByteArray)) ++ (strOfNums y408)) ++ (⟨#[10]⟩ : ByteArray)))]) (fun s_ w' => (w'.cell? ⟨gb401, 0, none⟩ = some (.int .i64 ((rd_T23 t396 x14_2).f0)) ∧ w'.cell? ⟨gb401, 1, none⟩ = some (.int .i64 ((rd_T23 t396 x14_2).f1)) ∧ w'.cell? ⟨gb401, 2, none⟩ = some (.int .u8 ((rd_T23 t396 x14_2).f2))) ∧ (Kd.R (Kd.int .u8) 5 w' w.heap.size (fun k_ => some k_ ≠ (s_ : Value).ownBlock) v405 y404) ∧ (Kd.R (Kd.int .u8) 5 w' w.heap.size (fun k_ => some k_ ≠ (v405 : Value).ownBlock) s_ y408) ∧ (Kd.R k23 23 w' w.heap.size (fun k_ => k_ ≠ gb401) (.slice (some ad400) t396.length co13) t396) ∧ (w'.heap[gb399]? = some (.cells #[.int .i64 0, .int .i64 0, .int .u8 43, .slice (some ad400) t396.length co13] 26 (0, 0))) ∧ (w'.heap[gb401]? = some (.cells #[.int .i64 ((rd_T23 t396 x14_2).f0), .int .i64 ((rd_T23 t396 x14_2).f1), .int .u8 ((rd_T23 t396 x14_2).f2)] 23 (0, 0))) ∧ (Below w.heap.size w w')) ?_ ?_
       ·as_aux_lemma =>
         clear HO_400003 HO406 BK399 BK401 HB
         rintro v409 w58 ⟨hHeld, h0_, h1_, h2_, h3_, h4_, h5_⟩
         have HO406 := Aside0.mk h0_; have HO410 := Aside0.mk h1_; have HO_400003 := Aside0.mk h2_; have BK399 := Aside0.mk h3_; have BK401 := Aside0.mk h4_; have HB := Aside0.mk h5_; clear h0_ h1_ h2_ h3_ h4_ h5_
         refine norm_ (a' := ?_) ?_ ?_
         rotate_left
         ·simp only [putAll, Act.put, List.setIfInBounds_toArray, List.set_cons_zero, List.set_cons_succ]
          rfl
         refine two_ (i := 13) (j := 24) (Ni := some 97) (Nj := some 108) bz_47 bz_34 rfl rfl rfl rfl (two_of HT_.out (by kernel_rfl)) (by decide) (by decide) (fun K hK => ?_) (fun K hK => ?_)
         ·refine gq_ Tryz.func22 (by kernel_rfl) rfl #[.int .i64 (wrap64 (((rd_T23 t396 x14_2).f0) + 1))] (by rfl) rfl rfl ?_
          with_reducible refine (num_Dec.calls (wrap64 (((rd_T23 t396 x14_2).f0) + 1)) t411 _ A45.out ?tb46_).mono ?_
          (case tb46_ => exact tb_ HTAB HB)
          rintro e w59 ⟨rfl, hb⟩
          refine ⟨_, rfl, ?_⟩
          replace HO_400003 := Aside0.mk (Kd.R_below (ky_ HO_400003) hb)
          replace HO406 := Aside0.mk (Kd.R_below (ky_ HO406) hb)
          replace HO410 := Aside0.mk (Kd.R_below (ky_ HO410) hb)
          replace BK399 := bb_ BK399 hb
          replace BK401 := bb_ BK401 hb
          replace HB := bs_ HB hb
          (try clear hb)
          refine hK.out _ _ (k3_ BK401) (fun hHeld => ?_)
          clear hK K
          refine nm_ 97 ?_
          refine pu_ 14 98 (lb_ 29 13074431) rfl rfl (ao_ HT_) ?_
          refine pu_ 15 99 (lb_ 29 13107199) rfl rfl (ao_ HT_) ?_
          exact nx_ (hJ2_6_7_13 (v409) _ ⟨hHeld, (ky_ HO406), (ky_ HO410), (ky_ HO_400003), (bq_ BK399), (bq_ BK401), (bh_ HB)⟩)
         skip
         refine Kd.R_lit_step (Kd.int .u8) _ 5 ?hg (N := 108) ?hd (xs := ([(rd_T23 t396 x14_2).f2] : List Int)) (inner := [.int .u8 ((rd_T23 t396 x14_2).f2)]) (ok := fun _ => True) (okp := fun _ => True) ?hr ?hp (fun _ hk => hk) trivial (Below.refl _ _) (Nat.le_refl _) (by simp) ?_; (case hd => rfl); (case hg => rfl); (case hr => first | (go_simp; done) | (go_simp; rfl)); (case hp => exact (Reps.one (show Kd.M (Kd.int .u8) _ _ _ ((rd_T23 t396 x14_2).f2) [.int .u8 ((rd_T23 t396 x14_2).f2)] from rfl) (Reps.none _ _)))
         intro v414 w59 ho60 hb hg_ hnew_
         clear hg_ hnew_
         (first | rw [← Ny413.out] at ho60 | (simp only [Int.reduceToNat] at ho60; rw [← Ny413.out] at ho60))
         replace HO_400003 := Aside0.mk (Kd.R_below (ky_ HO_400003) hb)
         have HO415 := Aside0.mk (Kd.R_lower (Kd.R_new' (Kd.R_new' ho60 (Kd.R_lt (ky_ HO406))) (Kd.R_lt (ky_ HO410))) (below_size (bh_ HB)))
         replace HO406 := Aside0.mk (Kd.R_elder' (ky_ HO406) (Kd.R_base ho60) hb)
         replace HO410 := Aside0.mk (Kd.R_elder' (ky_ HO410) (Kd.R_base ho60) hb)
         replace BK399 := bb_ BK399 hb
         replace BK401 := bb_ BK401 hb
         replace HB := bs_ HB hb
         clear hb ho60
         refine hK.out _ _ (k3_ BK401) (fun hHeld => ?_)
         clear hK K
         refine nm_ 108 ?_
         exact nx_ (hJ2_6_7_24 (v409, v414) _ ⟨hHeld, (ky_ HO406), (ky_ HO410), (by (with_reducible repeat (first | apply Kd.R_alloc | apply Kd.R_drewN | apply Kd.R_drew)); exact Kd.R_mono HO415.out (fun _ hk => ⟨hk.1.2, hk.2⟩)), (ky_ HO_400003), (bq_ BK399), (bq_ BK401), (bh_ HB)⟩)
       intro hJ2_6_7
       refine join_ (σ := Value) 13 bz_48 (fun s_ => [(86, .string t407), (90, s_), (97, .string t411), (87, .string (t407 ++ (⟨#[32, 49, 32]⟩ : ByteArray)))]) (fun s_ w' => (w'.cell? ⟨gb401, 0, none⟩ = some (.int .i64 ((rd_T23 t396 x14_2).f0)) ∧ w'.cell? ⟨gb401, 1, none⟩ = some (.int .i64 ((rd_T23 t396 x14_2).f1)) ∧ w'.cell? ⟨gb401, 2, none⟩ = some (.int .u8 ((rd_T23 t396 x14_2).f2))) ∧ (Kd.R (Kd.int .u8) 5 w' w.heap.size (fun k_ => some k_ ≠ (s_ : Value).ownBlock) v405 y404) ∧ (Kd.R (Kd.int .u8) 5 w' w.heap.size (fun k_ => some k_ ≠ (v405 : Value).ownBlock) s_ y408) ∧ (Kd.R k23 23 w' w.heap.size (fun k_ => k_ ≠ gb401) (.slice (some ad400) t396.length co13) t396) ∧ (w'.heap[gb399]? = some (.cells #[.int .i64 0, .int .i64 0, .int .u8 43, .slice (some ad400) t396.length co13] 26 (0, 0))) ∧ (w'.heap[gb401]? = some (.cells #[.int .i64 ((rd_T23 t396 x14_2).f0), .int .i64 ((rd_T23 t396 x14_2).f1), .int .u8 ((rd_T23 t396 x14_2).f2)] 23 (0, 0))) ∧ (Below w.heap.size w w')) ?_ ?_
       ·as_aux_lemma =>
         clear HO_400003 HO406 BK399 BK401 HB
         rintro v409 w58 ⟨hHeld, h0_, h1_, h2_, h3_, h4_, h5_⟩
         have HO406 := Aside0.mk h0_; have HO410 := Aside0.mk h1_; have HO_400003 := Aside0.mk h2_; have BK399 := Aside0.mk h3_; have BK401 := Aside0.mk h4_; have HB := Aside0.mk h5_; clear h0_ h1_ h2_ h3_ h4_ h5_
         refine norm_ (a' := ?_) ?_ ?_
         rotate_left
         ·simp only [putAll, Act.put, List.setIfInBounds_toArray, List.set_cons_zero, List.set_cons_succ]
          rfl
         refine three_ (i := 7) (j := 19) (k := 24) (Ni := some 91) (Nj := some 103) (Nk := some 108) bz_49 bz_36 bz_38 rfl rfl rfl rfl rfl rfl (three_of HT_.out (by kernel_rfl)) (by decide) (by decide) (by decide) (fun K hK => ?_) (fun K hK => ?_) (fun K hK => ?_)
         ·have hcv59 := own_string (P := Tryz.prog) Tryz.underlying39 Tryz.underlying5 Tryz.underlying9 (Kd.own_of_R HO410.out)
          refine value_ (w1 := ?_) (v := ?_) (by rfl) rfl ?_ ?_
          rotate_left 2
          ·go_simp
           constructor
           ·rfl
           rfl
          clear hcv59
          refine hK.out _ _ (k3_ BK401) (fun hHeld => ?_)
          clear hK K
          refine nm_ 91 ?_
          refine pu_ 8 92 (lb_ 29 13057535) rfl rfl (ao_ HT_) ?_
          refine pu_ 9 93 (lb_ 29 13058047) rfl rfl (ao_ HT_) ?_
          refine pu_ 14 98 (lb_ 29 13074431) rfl rfl (ao_ HT_) ?_
          refine pu_ 15 99 (lb_ 29 13107199) rfl rfl (ao_ HT_) ?_
          exact nx_ (hJ2_6_7_13 (v409) _ ⟨hHeld, (ky_ HO406), (ky_ HO410), (ky_ HO_400003), (bq_ BK399), (bq_ BK401), (bh_ HB)⟩)
         ·refine gq_ Tryz.func22 (by kernel_rfl) rfl #[.int .i64 (wrap64 (((rd_T23 t396 x14_2).f1) - 1))] (by rfl) rfl rfl ?_
          with_reducible refine (num_Dec.calls (wrap64 (((rd_T23 t396 x14_2).f1) - 1)) t412 _ A48.out ?tb44_).mono ?_
          (case tb44_ => exact tb_ HTAB HB)
          rintro e w59 ⟨rfl, hb⟩
          refine ⟨_, rfl, ?_⟩
          replace HO_400003 := Aside0.mk (Kd.R_below (ky_ HO_400003) hb)
          replace HO406 := Aside0.mk (Kd.R_below (ky_ HO406) hb)
          replace HO410 := Aside0.mk (Kd.R_below (ky_ HO410) hb)
          replace BK399 := bb_ BK399 hb
          replace BK401 := bb_ BK401 hb
          replace HB := bs_ HB hb
          (try clear hb)
          refine hK.out _ _ (k3_ BK401) (fun hHeld => ?_)
          clear hK K
          refine nm_ 103 ?_
          exact nx_ (hJ2_6_13_19 (v409) _ ⟨hHeld, (ky_ HO406), (ky_ HO410), (ky_ HO_400003), (bq_ BK399), (bq_ BK401), (bh_ HB)⟩)
         skip
         refine Kd.R_lit_step (Kd.int .u8) _ 5 ?hg (N := 108) ?hd (xs := ([(rd_T23 t396 x14_2).f2] : List Int)) (inner := [.int .u8 ((rd_T23 t396 x14_2).f2)]) (ok := fun _ => True) (okp := fun _ => True) ?hr ?hp (fun _ hk => hk) trivial (Below.refl _ _) (Nat.le_refl _) (by simp) ?_; (case hd => rfl); (case hg => rfl); (case hr => first | (go_simp; done) | (go_simp; rfl)); (case hp => exact (Reps.one (show Kd.M (Kd.int .u8) _ _ _ ((rd_T23 t396 x14_2).f2) [.int .u8 ((rd_T23 t396 x14_2).f2)] from rfl) (Reps.none _ _)))
         intro v414 w59 ho60 hb hg_ hnew_
         clear hg_ hnew_
         (first | rw [← Ny413.out] at ho60 | (simp only [Int.reduceToNat] at ho60; rw [← Ny413.out] at ho60))
         replace HO_400003 := Aside0.mk (Kd.R_below (ky_ HO_400003) hb)
         have HO415 := Aside0.mk (Kd.R_lower (Kd.R_new' (Kd.R_new' ho60 (Kd.R_lt (ky_ HO406))) (Kd.R_lt (ky_ HO410))) (below_size (bh_ HB)))
         replace HO406 := Aside0.mk (Kd.R_elder' (ky_ HO406) (Kd.R_base ho60) hb)
         replace HO410 := Aside0.mk (Kd.R_elder' (ky_ HO410) (Kd.R_base ho60) hb)
         replace BK399 := bb_ BK399 hb
         replace BK401 := bb_ BK401 hb
         replace HB := bs_ HB hb
         clear hb ho60
         refine hK.out _ _ (k3_ BK401) (fun hHeld => ?_)
         clear hK K
         refine nm_ 108 ?_
         exact nx_ (hJ2_6_13_24 (v409, v414) _ ⟨hHeld, (ky_ HO406), (ky_ HO410), (by (with_reducible repeat (first | apply Kd.R_alloc | apply Kd.R_drewN | apply Kd.R_drew)); exact Kd.R_mono HO415.out (fun _ hk => ⟨hk.1.2, hk.2⟩)), (ky_ HO_400003), (bq_ BK399), (bq_ BK401), (bh_ HB)⟩)
       intro hJ2_6_13
       refine join_ (σ := Value × Value) 13 bz_50 (fun s_ => [(86, .string t407), (90, s_.1), (108, s_.2), (87, .string (t407 ++ (⟨#[32, 49, 32]⟩ : ByteArray)))]) (fun s_ w' => (w'.cell? ⟨gb401, 0, none⟩ = some (.int .i64 ((rd_T23 t396 x14_2).f0)) ∧ w'.cell? ⟨gb401, 1, none⟩ = some (.int .i64 ((rd_T23 t396 x14_2).f1)) ∧ w'.cell? ⟨gb401, 2, none⟩ = some (.int .u8 ((rd_T23 t396 x14_2).f2))) ∧ (Kd.R (Kd.int .u8) 5 w' w.heap.size (fun k_ => some k_ ≠ (s_.1 : Value).ownBlock ∧ some k_ ≠ (s_.2 : Value).ownBlock) v405 y404) ∧ (Kd.R (Kd.int .u8) 5 w' w.heap.size (fun k_ => some k_ ≠ (v405 : Value).ownBlock ∧ some k_ ≠ (s_.2 : Value).ownBlock) s_.1 y408) ∧ (Kd.R (Kd.int .u8) 5 w' w.heap.size (fun k_ => some k_ ≠ (v405 : Value).ownBlock ∧ some k_ ≠ (s_.1 : Value).ownBlock) s_.2 y413) ∧ (Kd.R k23 23 w' w.heap.size (fun k_ => k_ ≠ gb401) (.slice (some ad400) t396.length co13) t396) ∧ (w'.heap[gb399]? = some (.cells #[.int .i64 0, .int .i64 0, .int .u8 43, .slice (some ad400) t396.length co13] 26 (0, 0))) ∧ (w'.heap[gb401]? = some (.cells #[.int .i64 ((rd_T23 t396 x14_2).f0), .int .i64 ((rd_T23 t396 x14_2).f1), .int .u8 ((rd_T23 t396 x14_2).f2)] 23 (0, 0))) ∧ (Below w.heap.size w w')) ?_ ?_
       ·as_aux_lemma =>
         clear HO_400003 HO406 BK399 BK401 HB
         rintro ⟨v409, v414⟩ w59 ⟨hHeld, h0_, h1_, h2_, h3_, h4_, h5_, h6_⟩
         (try dsimp only at hHeld); (try dsimp only at h0_); (try dsimp only at h1_); (try dsimp only at h2_); (try dsimp only at h3_); (try dsimp only at h4_); (try dsimp only at h5_); (try dsimp only at h6_)
         have HO406 := Aside0.mk h0_; have HO410 := Aside0.mk h1_; have HO415 := Aside0.mk h2_; have HO_400003 := Aside0.mk h3_; have BK399 := Aside0.mk h4_; have BK401 := Aside0.mk h5_; have HB := Aside0.mk h6_; clear h0_ h1_ h2_ h3_ h4_ h5_ h6_
         refine norm_ (a' := ?_) ?_ ?_
         rotate_left
         ·simp only [putAll, Act.put, List.setIfInBounds_toArray, List.set_cons_zero, List.set_cons_succ]
          rfl
         refine three_ (i := 7) (j := 13) (k := 25) (Ni := some 91) (Nj := some 97) (Nk := some 109) bz_51 bz_38 bz_40 rfl rfl rfl rfl rfl rfl (three_of HT_.out (by kernel_rfl)) (by decide) (by decide) (by decide) (fun K hK => ?_) (fun K hK => ?_) (fun K hK => ?_)
         ·have hcv60 := own_string (P := Tryz.prog) Tryz.underlying39 Tryz.underlying5 Tryz.underlying9 (Kd.own_of_R HO410.out)
          refine value_ (w1 := ?_) (v := ?_) (by rfl) rfl ?_ ?_
          rotate_left 2
          ·go_simp
           constructor
           ·rfl
           rfl
          clear hcv60
          refine hK.out _ _ (k3_ BK401) (fun hHeld => ?_)
          clear hK K
          refine nm_ 91 ?_
          refine pu_ 8 92 (lb_ 29 29826559) rfl rfl (ao_ HT_) ?_
          refine pu_ 9 93 (lb_ 29 29827071) rfl rfl (ao_ HT_) ?_
          exact nx_ (hJ2_6_7_24 (v409, v414) _ ⟨hHeld, (ky_ HO406), (ky_ HO410), (ky_ HO415), (ky_ HO_400003), (bq_ BK399), (bq_ BK401), (bh_ HB)⟩)
         ·refine gq_ Tryz.func22 (by kernel_rfl) rfl #[.int .i64 (wrap64 (((rd_T23 t396 x14_2).f0) + 1))] (by rfl) rfl rfl ?_
          with_reducible refine (num_Dec.calls (wrap64 (((rd_T23 t396 x14_2).f0) + 1)) t411 _ A45.out ?tb42_).mono ?_
          (case tb42_ => exact tb_ HTAB HB)
          rintro e w60 ⟨rfl, hb⟩
          refine ⟨_, rfl, ?_⟩
          replace HO_400003 := Aside0.mk (Kd.R_below (ky_ HO_400003) hb)
          replace HO406 := Aside0.mk (Kd.R_below (ky_ HO406) hb)
          replace HO410 := Aside0.mk (Kd.R_below (ky_ HO410) hb)
          replace HO415 := Aside0.mk (Kd.R_below (ky_ HO415) hb)
          replace BK399 := bb_ BK399 hb
          replace BK401 := bb_ BK401 hb
          replace HB := bs_ HB hb
          (try clear hb)
          refine hK.out _ _ (k3_ BK401) (fun hHeld => ?_)
          clear hK K
          refine nm_ 97 ?_
          exact nx_ (hJ2_6_13_24 (v409, v414) _ ⟨hHeld, (ky_ HO406), (ky_ HO410), (ky_ HO415), (ky_ HO_400003), (bq_ BK399), (bq_ BK401), (bh_ HB)⟩)
         skip
         have hcv60 := own_string (P := Tryz.prog) Tryz.underlying39 Tryz.underlying5 Tryz.underlying9 (Kd.own_of_R HO415.out)
         refine value_ (w1 := ?_) (v := ?_) (by rfl) rfl ?_ ?_
         rotate_left 2
         ·go_simp
          constructor
          ·rfl
          rfl
         clear hcv60
         refine hK.out _ _ (k3_ BK401) (fun hHeld => ?_)
         clear hK K
         refine nm_ 109 ?_
         exact nx_ (hJ2_6_24_25 (v409, v414) _ ⟨hHeld, (ky_ HO406), (ky_ HO410), (ky_ HO415), (ky_ HO_400003), (bq_ BK399), (bq_ BK401), (bh_ HB)⟩)
       intro hJ2_6_24
       refine join_ (σ := Unit) 13 bz_52 (fun s_ => [(86, .string t407), (97, .string t411), (103, .string t412), (87, .string (t407 ++ (⟨#[32, 49, 32]⟩ : ByteArray)))]) (fun s_ w' => (w'.cell? ⟨gb401, 0, none⟩ = some (.int .i64 ((rd_T23 t396 x14_2).f0)) ∧ w'.cell? ⟨gb401, 1, none⟩ = some (.int .i64 ((rd_T23 t396 x14_2).f1)) ∧ w'.cell? ⟨gb401, 2, none⟩ = some (.int .u8 ((rd_T23 t396 x14_2).f2))) ∧ (Kd.R (Kd.int .u8) 5 w' w.heap.size (fun _ => True) v405 y404) ∧ (Kd.R k23 23 w' w.heap.size (fun k_ => k_ ≠ gb401) (.slice (some ad400) t396.length co13) t396) ∧ (w'.heap[gb399]? = some (.cells #[.int .i64 0, .int .i64 0, .int .u8 43, .slice (some ad400) t396.length co13] 26 (0, 0))) ∧ (w'.heap[gb401]? = some (.cells #[.int .i64 ((rd_T23 t396 x14_2).f0), .int .i64 ((rd_T23 t396 x14_2).f1), .int .u8 ((rd_T23 t396 x14_2).f2)] 23 (0, 0))) ∧ (Below w.heap.size w w')) ?_ ?_
       ·as_aux_lemma =>
         clear HO_400003 HO406 BK399 BK401 HB
         rintro _ w57 ⟨hHeld, h0_, h1_, h2_, h3_, h4_⟩
         have HO406 := Aside0.mk h0_; have HO_400003 := Aside0.mk h1_; have BK399 := Aside0.mk h2_; have BK401 := Aside0.mk h3_; have HB := Aside0.mk h4_; clear h0_ h1_ h2_ h3_ h4_
         refine norm_ (a' := ?_) ?_ ?_
         rotate_left
         ·simp only [putAll, Act.put, List.setIfInBounds_toArray, List.set_cons_zero, List.set_cons_succ]
          rfl
         refine two_ (i := 6) (j := 24) (Ni := some 90) (Nj := some 108) bz_36 bz_42 rfl rfl rfl rfl (two_of HT_.out (by kernel_rfl)) (by decide) (by decide) (fun K hK => ?_) (fun K hK => ?_)
         ·refine Kd.R_lit_step (Kd.int .u8) _ 5 ?hg (N := 90) ?hd (xs := ([(rd_T23 t396 x14_2).f2] : List Int)) (inner := [.int .u8 ((rd_T23 t396 x14_2).f2)]) (ok := fun _ => True) (okp := fun _ => True) ?hr ?hp (fun _ hk => hk) trivial (Below.refl _ _) (Nat.le_refl _) (by simp) ?_; (case hd => rfl); (case hg => rfl); (case hr => first | (go_simp; done) | (go_simp; rfl)); (case hp => exact (Reps.one (show Kd.M (Kd.int .u8) _ _ _ ((rd_T23 t396 x14_2).f2) [.int .u8 ((rd_T23 t396 x14_2).f2)] from rfl) (Reps.none _ _)))
          intro v409 w58 ho59 hb hg_ hnew_
          clear hg_ hnew_
          (first | rw [← Ny408.out] at ho59 | (simp only [Int.reduceToNat] at ho59; rw [← Ny408.out] at ho59))
          replace HO_400003 := Aside0.mk (Kd.R_below (ky_ HO_400003) hb)
          have HO410 := Aside0.mk (Kd.R_lower (Kd.R_new' ho59 (Kd.R_lt (ky_ HO406))) (below_size (bh_ HB)))
          replace HO406 := Aside0.mk (Kd.R_elder' (ky_ HO406) (Kd.R_base ho59) hb)
          replace BK399 := bb_ BK399 hb
          replace BK401 := bb_ BK401 hb
          replace HB := bs_ HB hb
          clear hb ho59
          refine hK.out _ _ (k3_ BK401) (fun hHeld => ?_)
          clear hK K
          refine nm_ 90 ?_
          exact nx_ (hJ2_6_13_19 (v409) _ ⟨hHeld, (by (with_reducible repeat (first | apply Kd.R_alloc | apply Kd.R_drewN | apply Kd.R_drew)); exact Kd.R_mono HO406.out (fun _ hk => hk.2)), (by (with_reducible repeat (first | apply Kd.R_alloc | apply Kd.R_drewN | apply Kd.R_drew)); exact Kd.R_mono HO410.out (fun _ hk => hk.2)), (ky_ HO_400003), (bq_ BK399), (bq_ BK401), (bh_ HB)⟩)
         skip
         refine Kd.R_lit_step (Kd.int .u8) _ 5 ?hg (N := 108) ?hd (xs := ([(rd_T23 t396 x14_2).f2] : List Int)) (inner := [.int .u8 ((rd_T23 t396 x14_2).f2)]) (ok := fun _ => True) (okp := fun _ => True) ?hr ?hp (fun _ hk => hk) trivial (Below.refl _ _) (Nat.le_refl _) (by simp) ?_; (case hd => rfl); (case hg => rfl); (case hr => first | (go_simp; done) | (go_simp; rfl)); (case hp => exact (Reps.one (show Kd.M (Kd.int .u8) _ _ _ ((rd_T23 t396 x14_2).f2) [.int .u8 ((rd_T23 t396 x14_2).f2)] from rfl) (Reps.none _ _)))
         intro v414 w58 ho59 hb hg_ hnew_
         clear hg_ hnew_
         (first | rw [← Ny413.out] at ho59 | (simp only [Int.reduceToNat] at ho59; rw [← Ny413.out] at ho59))
         replace HO_400003 := Aside0.mk (Kd.R_below (ky_ HO_400003) hb)
         have HO415 := Aside0.mk (Kd.R_lower (Kd.R_new' ho59 (Kd.R_lt (ky_ HO406))) (below_size (bh_ HB)))
         replace HO406 := Aside0.mk (Kd.R_elder' (ky_ HO406) (Kd.R_base ho59) hb)
         replace BK399 := bb_ BK399 hb
         replace BK401 := bb_ BK401 hb
         replace HB := bs_ HB hb
         clear hb ho59
         refine hK.out _ _ (k3_ BK401) (fun hHeld => ?_)
         clear hK K
         refine nm_ 108 ?_
         exact nx_ (hJ2_13_19_24 (v414) _ ⟨hHeld, (by (with_reducible repeat (first | apply Kd.R_alloc | apply Kd.R_drewN | apply Kd.R_drew)); exact Kd.R_mono HO406.out (fun _ hk => hk.2)), (by (with_reducible repeat (first | apply Kd.R_alloc | apply Kd.R_drewN | apply Kd.R_drew)); exact Kd.R_mono HO415.out (fun _ hk => hk.2)), (ky_ HO_400003), (bq_ BK399), (bq_ BK401), (bh_ HB)⟩)
       intro hJ2_13_19
       refine join_ (σ := Value) 13 bz_53 (fun s_ => [(86, .string t407), (97, .string t411), (108, s_), (87, .string (t407 ++ (⟨#[32, 49, 32]⟩ : ByteArray)))]) (fun s_ w' => (w'.cell? ⟨gb401, 0, none⟩ = some (.int .i64 ((rd_T23 t396 x14_2).f0)) ∧ w'.cell? ⟨gb401, 1, none⟩ = some (.int .i64 ((rd_T23 t396 x14_2).f1)) ∧ w'.cell? ⟨gb401, 2, none⟩ = some (.int .u8 ((rd_T23 t396 x14_2).f2))) ∧ (Kd.R (Kd.int .u8) 5 w' w.heap.size (fun k_ => some k_ ≠ (s_ : Value).ownBlock) v405 y404) ∧ (Kd.R (Kd.int .u8) 5 w' w.heap.size (fun k_ => some k_ ≠ (v405 : Value).ownBlock) s_ y413) ∧ (Kd.R k23 23 w' w.heap.size (fun k_ => k_ ≠ gb401) (.slice (some ad400) t396.length co13) t396) ∧ (w'.heap[gb399]? = some (.cells #[.int .i64 0, .int .i64 0, .int .u8 43, .slice (some ad400) t396.length co13] 26 (0, 0))) ∧ (w'.heap[gb401]? = some (.cells #[.int .i64 ((rd_T23 t396 x14_2).f0), .int .i64 ((rd_T23 t396 x14_2).f1), .int .u8 ((rd_T23 t396 x14_2).f2)] 23 (0, 0))) ∧ (Below w.heap.size w w')) ?_ ?_
       ·as_aux_lemma =>
         clear HO_400003 HO406 BK399 BK401 HB
         rintro v414 w58 ⟨hHeld, h0_, h1_, h2_, h3_, h4_, h5_⟩
         have HO406 := Aside0.mk h0_; have HO415 := Aside0.mk h1_; have HO_400003 := Aside0.mk h2_; have BK399 := Aside0.mk h3_; have BK401 := Aside0.mk h4_; have HB := Aside0.mk h5_; clear h0_ h1_ h2_ h3_ h4_ h5_
         refine norm_ (a' := ?_) ?_ ?_
         rotate_left
         ·simp only [putAll, Act.put, List.setIfInBounds_toArray, List.set_cons_zero, List.set_cons_succ]
          rfl
         refine three_ (i := 6) (j := 19) (k := 25) (Ni := some 90) (Nj := some 103) (Nk := some 109) bz_38 bz_42 bz_43 rfl rfl rfl rfl rfl rfl (three_of HT_.out (by kernel_rfl)) (by decide) (by decide) (by decide) (fun K hK => ?_) (fun K hK => ?_) (fun K hK => ?_)
         ·refine Kd.R_lit_step (Kd.int .u8) _ 5 ?hg (N := 90) ?hd (xs := ([(rd_T23 t396 x14_2).f2] : List Int)) (inner := [.int .u8 ((rd_T23 t396 x14_2).f2)]) (ok := fun _ => True) (okp := fun _ => True) ?hr ?hp (fun _ hk => hk) trivial (Below.refl _ _) (Nat.le_refl _) (by simp) ?_; (case hd => rfl); (case hg => rfl); (case hr => first | (go_simp; done) | (go_simp; rfl)); (case hp => exact (Reps.one (show Kd.M (Kd.int .u8) _ _ _ ((rd_T23 t396 x14_2).f2) [.int .u8 ((rd_T23 t396 x14_2).f2)] from rfl) (Reps.none _ _)))
          intro v409 w59 ho60 hb hg_ hnew_
          clear hg_ hnew_
          (first | rw [← Ny408.out] at ho60 | (simp only [Int.reduceToNat] at ho60; rw [← Ny408.out] at ho60))
          replace HO_400003 := Aside0.mk (Kd.R_below (ky_ HO_400003) hb)
          have HO410 := Aside0.mk (Kd.R_lower (Kd.R_new' (Kd.R_new' ho60 (Kd.R_lt (ky_ HO406))) (Kd.R_lt (ky_ HO415))) (below_size (bh_ HB)))
          replace HO406 := Aside0.mk (Kd.R_elder' (ky_ HO406) (Kd.R_base ho60) hb)
          replace HO415 := Aside0.mk (Kd.R_elder' (ky_ HO415) (Kd.R_base ho60) hb)
          replace BK399 := bb_ BK399 hb
          replace BK401 := bb_ BK401 hb
          replace HB := bs_ HB hb
          clear hb ho60
          refine hK.out _ _ (k3_ BK401) (fun hHeld => ?_)
          clear hK K
          refine nm_ 90 ?_
          exact nx_ (hJ2_6_13_24 (v409, v414) _ ⟨hHeld, (by (with_reducible repeat (first | apply Kd.R_alloc | apply Kd.R_drewN | apply Kd.R_drew)); exact Kd.R_mono HO406.out (fun _ hk => ⟨hk.2, hk.1⟩)), (by (with_reducible repeat (first | apply Kd.R_alloc | apply Kd.R_drewN | apply Kd.R_drew)); exact Kd.R_mono HO410.out (fun _ hk => ⟨hk.1.2, hk.2⟩)), (ky_ HO415), (ky_ HO_400003), (bq_ BK399), (bq_ BK401), (bh_ HB)⟩)
         ·refine gq_ Tryz.func22 (by kernel_rfl) rfl #[.int .i64 (wrap64 (((rd_T23 t396 x14_2).f1) - 1))] (by rfl) rfl rfl ?_
          with_reducible refine (num_Dec.calls (wrap64 (((rd_T23 t396 x14_2).f1) - 1)) t412 _ A48.out ?tb40_).mono ?_
          (case tb40_ => exact tb_ HTAB HB)
          rintro e w59 ⟨rfl, hb⟩
          refine ⟨_, rfl, ?_⟩
          replace HO_400003 := Aside0.mk (Kd.R_below (ky_ HO_400003) hb)
          replace HO406 := Aside0.mk (Kd.R_below (ky_ HO406) hb)
          replace HO415 := Aside0.mk (Kd.R_below (ky_ HO415) hb)
          replace BK399 := bb_ BK399 hb
          replace BK401 := bb_ BK401 hb
          replace HB := bs_ HB hb
          (try clear hb)
          refine hK.out _ _ (k3_ BK401) (fun hHeld => ?_)
          clear hK K
          refine nm_ 103 ?_
          exact nx_ (hJ2_13_19_24 (v414) _ ⟨hHeld, (ky_ HO406), (ky_ HO415), (ky_ HO_400003), (bq_ BK399), (bq_ BK401), (bh_ HB)⟩)
         skip
         have hcv59 := own_string (P := Tryz.prog) Tryz.underlying39 Tryz.underlying5 Tryz.underlying9 (Kd.own_of_R HO415.out)
         refine value_ (w1 := ?_) (v := ?_) (by rfl) rfl ?_ ?_
         rotate_left 2
         ·go_simp
          constructor
          ·rfl
          rfl
         clear hcv59
         refine hK.out _ _ (k3_ BK401) (fun hHeld => ?_)
         clear hK K
         refine nm_ 109 ?_
         exact nx_ (hJ2_13_24_25 (v414) _ ⟨hHeld, (ky_ HO406), (ky_ HO415), (ky_ HO_400003), (bq_ BK399), (bq_ BK401), (bh_ HB)⟩)
       intro hJ2_13_24
       refine join_ (σ := Value) 13 bz_54 (fun s_ => [(86, .string t407), (108, s_), (109, .string (strOfNums y413)), (87, .string (t407 ++ (⟨#[32, 49, 32]⟩ : ByteArray)))]) (fun s_ w' => (w'.cell? ⟨gb401, 0, none⟩ = some (.int .i64 ((rd_T23 t396 x14_2).f0)) ∧ w'.cell? ⟨gb401, 1, none⟩ = some (.int .i64 ((rd_T23 t396 x14_2).f1)) ∧ w'.cell? ⟨gb401, 2, none⟩ = some (.int .u8 ((rd_T23 t396 x14_2).f2))) ∧ (Kd.R (Kd.int .u8) 5 w' w.heap.size (fun k_ => some k_ ≠ (s_ : Value).ownBlock) v405 y404) ∧ (Kd.R (Kd.int .u8) 5 w' w.heap.size (fun k_ => some k_ ≠ (v405 : Value).ownBlock) s_ y413) ∧ (Kd.R k23 23 w' w.heap.size (fun k_ => k_ ≠ gb401) (.slice (some ad400) t396.length co13) t396) ∧ (w'.heap[gb399]? = some (.cells #[.int .i64 0, .int .i64 0, .int .u8 43, .slice (some ad400) t396.length co13] 26 (0, 0))) ∧ (w'.heap[gb401]? = some (.cells #[.int .i64 ((rd_T23 t396 x14_2).f0), .int .i64 ((rd_T23 t396 x14_2).f1), .int .u8 ((rd_T23 t396 x14_2).f2)] 23 (0, 0))) ∧ (Below w.heap.size w w')) ?_ ?_
       ·as_aux_lemma =>
         clear HO_400003 HO406 BK399 BK401 HB
         rintro v414 w58 ⟨hHeld, h0_, h1_, h2_, h3_, h4_, h5_⟩
         have HO406 := Aside0.mk h0_; have HO415 := Aside0.mk h1_; have HO_400003 := Aside0.mk h2_; have BK399 := Aside0.mk h3_; have BK401 := Aside0.mk h4_; have HB := Aside0.mk h5_; clear h0_ h1_ h2_ h3_ h4_ h5_
         refine norm_ (a' := ?_) ?_ ?_
         rotate_left
         ·simp only [putAll, Act.put, List.setIfInBounds_toArray, List.set_cons_zero, List.set_cons_succ]
          rfl
         refine two_ (i := 6) (j := 13) (Ni := some 90) (Nj := some 97) bz_40 bz_43 rfl rfl rfl rfl (two_of HT_.out (by kernel_rfl)) (by decide) (by decide) (fun K hK => ?_) (fun K hK => ?_)
         ·refine Kd.R_lit_step (Kd.int .u8) _ 5 ?hg (N := 90) ?hd (xs := ([(rd_T23 t396 x14_2).f2] : List Int)) (inner := [.int .u8 ((rd_T23 t396 x14_2).f2)]) (ok := fun _ => True) (okp := fun _ => True) ?hr ?hp (fun _ hk => hk) trivial (Below.refl _ _) (Nat.le_refl _) (by simp) ?_; (case hd => rfl); (case hg => rfl); (case hr => first | (go_simp; done) | (go_simp; rfl)); (case hp => exact (Reps.one (show Kd.M (Kd.int .u8) _ _ _ ((rd_T23 t396 x14_2).f2) [.int .u8 ((rd_T23 t396 x14_2).f2)] from rfl) (Reps.none _ _)))
          intro v409 w59 ho60 hb hg_ hnew_
          clear hg_ hnew_
          (first | rw [← Ny408.out] at ho60 | (simp only [Int.reduceToNat] at ho60; rw [← Ny408.out] at ho60))
          replace HO_400003 := Aside0.mk (Kd.R_below (ky_ HO_400003) hb)
          have HO410 := Aside0.mk (Kd.R_lower (Kd.R_new' (Kd.R_new' ho60 (Kd.R_lt (ky_ HO406))) (Kd.R_lt (ky_ HO415))) (below_size (bh_ HB)))
          replace HO406 := Aside0.mk (Kd.R_elder' (ky_ HO406) (Kd.R_base ho60) hb)
          replace HO415 := Aside0.mk (Kd.R_elder' (ky_ HO415) (Kd.R_base ho60) hb)
          replace BK399 := bb_ BK399 hb
          replace BK401 := bb_ BK401 hb
          replace HB := bs_ HB hb
          clear hb ho60
          refine hK.out _ _ (k3_ BK401) (fun hHeld => ?_)
          clear hK K
          refine nm_ 90 ?_
          exact nx_ (hJ2_6_24_25 (v409, v414) _ ⟨hHeld, (by (with_reducible repeat (first | apply Kd.R_alloc | apply Kd.R_drewN | apply Kd.R_drew)); exact Kd.R_mono HO406.out (fun _ hk => ⟨hk.2, hk.1⟩)), (by (with_reducible repeat (first | apply Kd.R_alloc | apply Kd.R_drewN | apply Kd.R_drew)); exact Kd.R_mono HO410.out (fun _ hk => ⟨hk.1.2, hk.2⟩)), (ky_ HO415), (ky_ HO_400003), (bq_ BK399), (bq_ BK401), (bh_ HB)⟩)
         skip
         refine gq_ Tryz.func22 (by kernel_rfl) rfl #[.int .i64 (wrap64 (((rd_T23 t396 x14_2).f0) + 1))] (by rfl) rfl rfl ?_
         with_reducible refine (num_Dec.calls (wrap64 (((rd_T23 t396 x14_2).f0) + 1)) t411 _ A45.out ?tb38_).mono ?_
         (case tb38_ => exact tb_ HTAB HB)
         rintro e w59 ⟨rfl, hb⟩
         refine ⟨_, rfl, ?_⟩
         replace HO_400003 := Aside0.mk (Kd.R_below (ky_ HO_400003) hb)
         replace HO406 := Aside0.mk (Kd.R_below (ky_ HO406) hb)
         replace HO415 := Aside0.mk (Kd.R_below (ky_ HO415) hb)
         replace BK399 := bb_ BK399 hb
         replace BK401 := bb_ BK401 hb
         replace HB := bs_ HB hb
         (try clear hb)
         refine hK.out _ _ (k3_ BK401) (fun hHeld => ?_)
         clear hK K
         refine nm_ 97 ?_
         exact nx_ (hJ2_13_24_25 (v414) _ ⟨hHeld, (ky_ HO406), (ky_ HO415), (ky_ HO_400003), (bq_ BK399), (bq_ BK401), (bh_ HB)⟩)
       intro hJ2_24_25
       refine join_ (σ := Value × Value) 14 bz_55 (fun s_ => [(90, s_.1), (91, .string (strOfNums y408)), (108, s_.2)]) (fun s_ w' => (w'.cell? ⟨gb401, 0, none⟩ = some (.int .i64 ((rd_T23 t396 x14_2).f0)) ∧ w'.cell? ⟨gb401, 1, none⟩ = some (.int .i64 ((rd_T23 t396 x14_2).f1)) ∧ w'.cell? ⟨gb401, 2, none⟩ = some (.int .u8 ((rd_T23 t396 x14_2).f2))) ∧ (Kd.R (Kd.int .u8) 5 w' w.heap.size (fun k_ => some k_ ≠ (s_.1 : Value).ownBlock ∧ some k_ ≠ (s_.2 : Value).ownBlock) v405 y404) ∧ (Kd.R (Kd.int .u8) 5 w' w.heap.size (fun k_ => some k_ ≠ (v405 : Value).ownBlock ∧ some k_ ≠ (s_.2 : Value).ownBlock) s_.1 y408) ∧ (Kd.R (Kd.int .u8) 5 w' w.heap.size (fun k_ => some k_ ≠ (v405 : Value).ownBlock ∧ some k_ ≠ (s_.1 : Value).ownBlock) s_.2 y413) ∧ (Kd.R k23 23 w' w.heap.size (fun k_ => k_ ≠ gb401) (.slice (some ad400) t396.length co13) t396) ∧ (w'.heap[gb399]? = some (.cells #[.int .i64 0, .int .i64 0, .int .u8 43, .slice (some ad400) t396.length co13] 26 (0, 0))) ∧ (w'.heap[gb401]? = some (.cells #[.int .i64 ((rd_T23 t396 x14_2).f0), .int .i64 ((rd_T23 t396 x14_2).f1), .int .u8 ((rd_T23 t396 x14_2).f2)] 23 (0, 0))) ∧ (Below w.heap.size w w')) ?_ ?_
       ·as_aux_lemma =>
         clear HO_400003 HO406 BK399 BK401 HB
         rintro ⟨v409, v414⟩ w59 ⟨hHeld, h0_, h1_, h2_, h3_, h4_, h5_, h6_⟩
         (try dsimp only at hHeld); (try dsimp only at h0_); (try dsimp only at h1_); (try dsimp only at h2_); (try dsimp only at h3_); (try dsimp only at h4_); (try dsimp only at h5_); (try dsimp only at h6_)
         have HO406 := Aside0.mk h0_; have HO410 := Aside0.mk h1_; have HO415 := Aside0.mk h2_; have HO_400003 := Aside0.mk h3_; have BK399 := Aside0.mk h4_; have BK401 := Aside0.mk h5_; have HB := Aside0.mk h6_; clear h0_ h1_ h2_ h3_ h4_ h5_ h6_
         refine norm_ (a' := ?_) ?_ ?_
         rotate_left
         ·simp only [putAll, Act.put, List.setIfInBounds_toArray, List.set_cons_zero, List.set_cons_succ]
          rfl
         refine two_ (i := 2) (j := 25) (Ni := some 86) (Nj := some 109) bz_56 bz_44 rfl rfl rfl rfl (two_of HT_.out (by kernel_rfl)) (by decide) (by decide) (fun K hK => ?_) (fun K hK => ?_)
         ·refine gq_ Tryz.func22 (by kernel_rfl) rfl #[.int .i64 ((rd_T23 t396 x14_2).f0)] (by rfl) rfl rfl ?_
          with_reducible refine (num_Dec.calls ((rd_T23 t396 x14_2).f0) t407 _ A41.out ?tb36_).mono ?_
          (case tb36_ => exact tb_ HTAB HB)
          rintro e w60 ⟨rfl, hb⟩
          refine ⟨_, rfl, ?_⟩
          replace HO_400003 := Aside0.mk (Kd.R_below (ky_ HO_400003) hb)
          replace HO406 := Aside0.mk (Kd.R_below (ky_ HO406) hb)
          replace HO410 := Aside0.mk (Kd.R_below (ky_ HO410) hb)
          replace HO415 := Aside0.mk (Kd.R_below (ky_ HO415) hb)
          replace BK399 := bb_ BK399 hb
          replace BK401 := bb_ BK401 hb
          replace HB := bs_ HB hb
          (try clear hb)
          refine hK.out _ _ (k3_ BK401) (fun hHeld => ?_)
          clear hK K
          refine nm_ 86 ?_
          refine pu_ 3 87 (lb_ 29 29826303) rfl rfl (ao_ HT_) ?_
          refine pu_ 8 92 (lb_ 29 29826559) rfl rfl (ao_ HT_) ?_
          refine pu_ 9 93 (lb_ 29 29827071) rfl rfl (ao_ HT_) ?_
          exact nx_ (hJ2_6_7_24 (v409, v414) _ ⟨hHeld, (ky_ HO406), (ky_ HO410), (ky_ HO415), (ky_ HO_400003), (bq_ BK399), (bq_ BK401), (bh_ HB)⟩)
         skip
         have hcv60 := own_string (P := Tryz.prog) Tryz.underlying39 Tryz.underlying5 Tryz.underlying9 (Kd.own_of_R HO415.out)
         refine value_ (w1 := ?_) (v := ?_) (by rfl) rfl ?_ ?_
         rotate_left 2
         ·go_simp
          constructor
          ·rfl
          rfl
         clear hcv60
         refine hK.out _ _ (k3_ BK401) (fun hHeld => ?_)
         clear hK K
         refine nm_ 109 ?_
         exact nx_ (hJ6_7_24_25 (v409, v414) _ ⟨hHeld, (ky_ HO406), (ky_ HO410), (ky_ HO415), (ky_ HO_400003), (bq_ BK399), (bq_ BK401), (bh_ HB)⟩)
       intro hJ6_7_24
       refine join_ (σ := Value × Value) 14 bz_57 (fun s_ => [(90, s_.1), (108, s_.2), (109, .string (strOfNums y413))]) (fun s_ w' => (w'.cell? ⟨gb401, 0, none⟩ = some (.int .i64 ((rd_T23 t396 x14_2).f0)) ∧ w'.cell? ⟨gb401, 1, none⟩ = some (.int .i64 ((rd_T23 t396 x14_2).f1)) ∧ w'.cell? ⟨gb401, 2, none⟩ = some (.int .u8 ((rd_T23 t396 x14_2).f2))) ∧ (Kd.R (Kd.int .u8) 5 w' w.heap.size (fun k_ => some k_ ≠ (s_.1 : Value).ownBlock ∧ some k_ ≠ (s_.2 : Value).ownBlock) v405 y404) ∧ (Kd.R (Kd.int .u8) 5 w' w.heap.size (fun k_ => some k_ ≠ (v405 : Value).ownBlock ∧ some k_ ≠ (s_.2 : Value).ownBlock) s_.1 y408) ∧ (Kd.R (Kd.int .u8) 5 w' w.heap.size (fun k_ => some k_ ≠ (v405 : Value).ownBlock ∧ some k_ ≠ (s_.1 : Value).ownBlock) s_.2 y413) ∧ (Kd.R k23 23 w' w.heap.size (fun k_ => k_ ≠ gb401) (.slice (some ad400) t396.length co13) t396) ∧ (w'.heap[gb399]? = some (.cells #[.int .i64 0, .int .i64 0, .int .u8 43, .slice (some ad400) t396.length co13] 26 (0, 0))) ∧ (w'.heap[gb401]? = some (.cells #[.int .i64 ((rd_T23 t396 x14_2).f0), .int .i64 ((rd_T23 t396 x14_2).f1), .int .u8 ((rd_T23 t396 x14_2).f2)] 23 (0, 0))) ∧ (Below w.heap.size w w')) ?_ ?_
       ·as_aux_lemma =>
         clear HO_400003 HO406 BK399 BK401 HB
         rintro ⟨v409, v414⟩ w59 ⟨hHeld, h0_, h1_, h2_, h3_, h4_, h5_, h6_⟩
         (try dsimp only at hHeld); (try dsimp only at h0_); (try dsimp only at h1_); (try dsimp only at h2_); (try dsimp only at h3_); (try dsimp only at h4_); (try dsimp only at h5_); (try dsimp only at h6_)
         have HO406 := Aside0.mk h0_; have HO410 := Aside0.mk h1_; have HO415 := Aside0.mk h2_; have HO_400003 := Aside0.mk h3_; have BK399 := Aside0.mk h4_; have BK401 := Aside0.mk h5_; have HB := Aside0.mk h6_; clear h0_ h1_ h2_ h3_ h4_ h5_ h6_
         refine norm_ (a' := ?_) ?_ ?_
         rotate_left
         ·simp only [putAll, Act.put, List.setIfInBounds_toArray, List.set_cons_zero, List.set_cons_succ]
          rfl
         refine two_ (i := 2) (j := 7) (Ni := some 86) (Nj := some 91) bz_58 bz_44 rfl rfl rfl rfl (two_of HT_.out (by kernel_rfl)) (by decide) (by decide) (fun K hK => ?_) (fun K hK => ?_)
         ·refine gq_ Tryz.func22 (by kernel_rfl) rfl #[.int .i64 ((rd_T23 t396 x14_2).f0)] (by rfl) rfl rfl ?_
          with_reducible refine (num_Dec.calls ((rd_T23 t396 x14_2).f0) t407 _ A41.out ?tb34_).mono ?_
          (case tb34_ => exact tb_ HTAB HB)
          rintro e w60 ⟨rfl, hb⟩
          refine ⟨_, rfl, ?_⟩
          replace HO_400003 := Aside0.mk (Kd.R_below (ky_ HO_400003) hb)
          replace HO406 := Aside0.mk (Kd.R_below (ky_ HO406) hb)
          replace HO410 := Aside0.mk (Kd.R_below (ky_ HO410) hb)
          replace HO415 := Aside0.mk (Kd.R_below (ky_ HO415) hb)
          replace BK399 := bb_ BK399 hb
          replace BK401 := bb_ BK401 hb
          replace HB := bs_ HB hb
          (try clear hb)
          refine hK.out _ _ (k3_ BK401) (fun hHeld => ?_)
          clear hK K
          refine nm_ 86 ?_
          refine pu_ 3 87 (lb_ 29 63380607) rfl rfl (ao_ HT_) ?_
          exact nx_ (hJ2_6_24_25 (v409, v414) _ ⟨hHeld, (ky_ HO406), (ky_ HO410), (ky_ HO415), (ky_ HO_400003), (bq_ BK399), (bq_ BK401), (bh_ HB)⟩)
         skip
         have hcv60 := own_string (P := Tryz.prog) Tryz.underlying39 Tryz.underlying5 Tryz.underlying9 (Kd.own_of_R HO410.out)
         refine value_ (w1 := ?_) (v := ?_) (by rfl) rfl ?_ ?_
         rotate_left 2
         ·go_simp
          constructor
          ·rfl
          rfl
         clear hcv60
         refine hK.out _ _ (k3_ BK401) (fun hHeld => ?_)
         clear hK K
         refine nm_ 91 ?_
         exact nx_ (hJ6_7_24_25 (v409, v414) _ ⟨hHeld, (ky_ HO406), (ky_ HO410), (ky_ HO415), (ky_ HO_400003), (bq_ BK399), (bq_ BK401), (bh_ HB)⟩)
       intro hJ6_24_25
       refine join_ (σ := Value) 14 bz_59 (fun s_ => [(86, .string t407), (90, s_), (87, .string (t407 ++ (⟨#[32, 49, 32]⟩ : ByteArray)))]) (fun s_ w' => (w'.cell? ⟨gb401, 0, none⟩ = some (.int .i64 ((rd_T23 t396 x14_2).f0)) ∧ w'.cell? ⟨gb401, 1, none⟩ = some (.int .i64 ((rd_T23 t396 x14_2).f1)) ∧ w'.cell? ⟨gb401, 2, none⟩ = some (.int .u8 ((rd_T23 t396 x14_2).f2))) ∧ (Kd.R (Kd.int .u8) 5 w' w.heap.size (fun k_ => some k_ ≠ (s_ : Value).ownBlock) v405 y404) ∧ (Kd.R (Kd.int .u8) 5 w' w.heap.size (fun k_ => some k_ ≠ (v405 : Value).ownBlock) s_ y408) ∧ (Kd.R k23 23 w' w.heap.size (fun k_ => k_ ≠ gb401) (.slice (some ad400) t396.length co13) t396) ∧ (w'.heap[gb399]? = some (.cells #[.int .i64 0, .int .i64 0, .int .u8 43, .slice (some ad400) t396.length co13] 26 (0, 0))) ∧ (w'.heap[gb401]? = some (.cells #[.int .i64 ((rd_T23 t396 x14_2).f0), .int .i64 ((rd_T23 t396 x14_2).f1), .int .u8 ((rd_T23 t396 x14_2).f2)] 23 (0, 0))) ∧ (Below w.heap.size w w')) ?_ ?_
       ·as_aux_lemma =>
         clear HO_400003 HO406 BK399 BK401 HB
         rintro v409 w57 ⟨hHeld, h0_, h1_, h2_, h3_, h4_, h5_⟩
         have HO406 := Aside0.mk h0_; have HO410 := Aside0.mk h1_; have HO_400003 := Aside0.mk h2_; have BK399 := Aside0.mk h3_; have BK401 := Aside0.mk h4_; have HB := Aside0.mk h5_; clear h0_ h1_ h2_ h3_ h4_ h5_
         refine norm_ (a' := ?_) ?_ ?_
         rotate_left
         ·simp only [putAll, Act.put, List.setIfInBounds_toArray, List.set_cons_zero, List.set_cons_succ]
          rfl
         refine three_ (i := 7) (j := 13) (k := 24) (Ni := some 91) (Nj := some 97) (Nk := some 108) bz_60 bz_48 bz_50 rfl rfl rfl rfl rfl rfl (three_of HT_.out (by kernel_rfl)) (by decide) (by decide) (by decide) (fun K hK => ?_) (fun K hK => ?_) (fun K hK => ?_)
         ·have hcv58 := own_string (P := Tryz.prog) Tryz.underlying39 Tryz.underlying5 Tryz.underlying9 (Kd.own_of_R HO410.out)
          refine value_ (w1 := ?_) (v := ?_) (by rfl) rfl ?_ ?_
          rotate_left 2
          ·go_simp
           constructor
           ·rfl
           rfl
          clear hcv58
          refine hK.out _ _ (k3_ BK401) (fun hHeld => ?_)
          clear hK K
          refine nm_ 91 ?_
          refine pu_ 8 92 (lb_ 29 13049343) rfl rfl (ao_ HT_) ?_
          refine pu_ 9 93 (lb_ 29 13049855) rfl rfl (ao_ HT_) ?_
          exact nx_ (hJ2_6_7 (v409) _ ⟨hHeld, (ky_ HO406), (ky_ HO410), (ky_ HO_400003), (bq_ BK399), (bq_ BK401), (bh_ HB)⟩)
         ·refine gq_ Tryz.func22 (by kernel_rfl) rfl #[.int .i64 (wrap64 (((rd_T23 t396 x14_2).f0) + 1))] (by rfl) rfl rfl ?_
          with_reducible refine (num_Dec.calls (wrap64 (((rd_T23 t396 x14_2).f0) + 1)) t411 _ A45.out ?tb32_).mono ?_
          (case tb32_ => exact tb_ HTAB HB)
          rintro e w58 ⟨rfl, hb⟩
          refine ⟨_, rfl, ?_⟩
          replace HO_400003 := Aside0.mk (Kd.R_below (ky_ HO_400003) hb)
          replace HO406 := Aside0.mk (Kd.R_below (ky_ HO406) hb)
          replace HO410 := Aside0.mk (Kd.R_below (ky_ HO410) hb)
          replace BK399 := bb_ BK399 hb
          replace BK401 := bb_ BK401 hb
          replace HB := bs_ HB hb
          (try clear hb)
          refine hK.out _ _ (k3_ BK401) (fun hHeld => ?_)
          clear hK K
          refine nm_ 97 ?_
          exact nx_ (hJ2_6_13 (v409) _ ⟨hHeld, (ky_ HO406), (ky_ HO410), (ky_ HO_400003), (bq_ BK399), (bq_ BK401), (bh_ HB)⟩)
         skip
         refine Kd.R_lit_step (Kd.int .u8) _ 5 ?hg (N := 108) ?hd (xs := ([(rd_T23 t396 x14_2).f2] : List Int)) (inner := [.int .u8 ((rd_T23 t396 x14_2).f2)]) (ok := fun _ => True) (okp := fun _ => True) ?hr ?hp (fun _ hk => hk) trivial (Below.refl _ _) (Nat.le_refl _) (by simp) ?_; (case hd => rfl); (case hg => rfl); (case hr => first | (go_simp; done) | (go_simp; rfl)); (case hp => exact (Reps.one (show Kd.M (Kd.int .u8) _ _ _ ((rd_T23 t396 x14_2).f2) [.int .u8 ((rd_T23 t396 x14_2).f2)] from rfl) (Reps.none _ _)))
         intro v414 w58 ho59 hb hg_ hnew_
         clear hg_ hnew_
         (first | rw [← Ny413.out] at ho59 | (simp only [Int.reduceToNat] at ho59; rw [← Ny413.out] at ho59))
         replace HO_400003 := Aside0.mk (Kd.R_below (ky_ HO_400003) hb)
         have HO415 := Aside0.mk (Kd.R_lower (Kd.R_new' (Kd.R_new' ho59 (Kd.R_lt (ky_ HO406))) (Kd.R_lt (ky_ HO410))) (below_size (bh_ HB)))
         replace HO406 := Aside0.mk (Kd.R_elder' (ky_ HO406) (Kd.R_base ho59) hb)
         replace HO410 := Aside0.mk (Kd.R_elder' (ky_ HO410) (Kd.R_base ho59) hb)
         replace BK399 := bb_ BK399 hb
         replace BK401 := bb_ BK401 hb
         replace HB := bs_ HB hb
         clear hb ho59
         refine hK.out _ _ (k3_ BK401) (fun hHeld => ?_)
         clear hK K
         refine nm_ 108 ?_
         exact nx_ (hJ2_6_24 (v409, v414) _ ⟨hHeld, (ky_ HO406), (ky_ HO410), (by (with_reducible repeat (first | apply Kd.R_alloc | apply Kd.R_drewN | apply Kd.R_drew)); exact Kd.R_mono HO415.out (fun _ hk => ⟨hk.1.2, hk.2⟩)), (ky_ HO_400003), (bq_ BK399), (bq_ BK401), (bh_ HB)⟩)
       intro hJ2_6
       refine join_ (σ := Unit) 14 bz_61 (fun s_ => [(86, .string t407), (97, .string t411), (87, .string (t407 ++ (⟨#[32, 49, 32]⟩ : ByteArray)))]) (fun s_ w' => (w'.cell? ⟨gb401, 0, none⟩ = some (.int .i64 ((rd_T23 t396 x14_2).f0)) ∧ w'.cell? ⟨gb401, 1, none⟩ = some (.int .i64 ((rd_T23 t396 x14_2).f1)) ∧ w'.cell? ⟨gb401, 2, none⟩ = some (.int .u8 ((rd_T23 t396 x14_2).f2))) ∧ (Kd.R (Kd.int .u8) 5 w' w.heap.size (fun _ => True) v405 y404) ∧ (Kd.R k23 23 w' w.heap.size (fun k_ => k_ ≠ gb401) (.slice (some ad400) t396.length co13) t396) ∧ (w'.heap[gb399]? = some (.cells #[.int .i64 0, .int .i64 0, .int .u8 43, .slice (some ad400) t396.length co13] 26 (0, 0))) ∧ (w'.heap[gb401]? = some (.cells #[.int .i64 ((rd_T23 t396 x14_2).f0), .int .i64 ((rd_T23 t396 x14_2).f1), .int .u8 ((rd_T23 t396 x14_2).f2)] 23 (0, 0))) ∧ (Below w.heap.size w w')) ?_ ?_
       ·as_aux_lemma =>
         clear HO_400003 HO406 BK399 BK401 HB
         rintro _ w56 ⟨hHeld, h0_, h1_, h2_, h3_, h4_⟩
         have HO406 := Aside0.mk h0_; have HO_400003 := Aside0.mk h1_; have BK399 := Aside0.mk h2_; have BK401 := Aside0.mk h3_; have HB := Aside0.mk h4_; clear h0_ h1_ h2_ h3_ h4_
         refine norm_ (a' := ?_) ?_ ?_
         rotate_left
         ·simp only [putAll, Act.put, List.setIfInBounds_toArray, List.set_cons_zero, List.set_cons_succ]
          rfl
         refine three_ (i := 6) (j := 19) (k := 24) (Ni := some 90) (Nj := some 103) (Nk := some 108) bz_48 bz_52 bz_53 rfl rfl rfl rfl rfl rfl (three_of HT_.out (by kernel_rfl)) (by decide) (by decide) (by decide) (fun K hK => ?_) (fun K hK => ?_) (fun K hK => ?_)
         ·refine Kd.R_lit_step (Kd.int .u8) _ 5 ?hg (N := 90) ?hd (xs := ([(rd_T23 t396 x14_2).f2] : List Int)) (inner := [.int .u8 ((rd_T23 t396 x14_2).f2)]) (ok := fun _ => True) (okp := fun _ => True) ?hr ?hp (fun _ hk => hk) trivial (Below.refl _ _) (Nat.le_refl _) (by simp) ?_; (case hd => rfl); (case hg => rfl); (case hr => first | (go_simp; done) | (go_simp; rfl)); (case hp => exact (Reps.one (show Kd.M (Kd.int .u8) _ _ _ ((rd_T23 t396 x14_2).f2) [.int .u8 ((rd_T23 t396 x14_2).f2)] from rfl) (Reps.none _ _)))
          intro v409 w57 ho58 hb hg_ hnew_
          clear hg_ hnew_
          (first | rw [← Ny408.out] at ho58 | (simp only [Int.reduceToNat] at ho58; rw [← Ny408.out] at ho58))
          replace HO_400003 := Aside0.mk (Kd.R_below (ky_ HO_400003) hb)
          have HO410 := Aside0.mk (Kd.R_lower (Kd.R_new' ho58 (Kd.R_lt (ky_ HO406))) (below_size (bh_ HB)))
          replace HO406 := Aside0.mk (Kd.R_elder' (ky_ HO406) (Kd.R_base ho58) hb)
          replace BK399 := bb_ BK399 hb
          replace BK401 := bb_ BK401 hb
          replace HB := bs_ HB hb
          clear hb ho58
          refine hK.out _ _ (k3_ BK401) (fun hHeld => ?_)
          clear hK K
          refine nm_ 90 ?_
          exact nx_ (hJ2_6_13 (v409) _ ⟨hHeld, (by (with_reducible repeat (first | apply Kd.R_alloc | apply Kd.R_drewN | apply Kd.R_drew)); exact Kd.R_mono HO406.out (fun _ hk => hk.2)), (by (with_reducible repeat (first | apply Kd.R_alloc | apply Kd.R_drewN | apply Kd.R_drew)); exact Kd.R_mono HO410.out (fun _ hk => hk.2)), (ky_ HO_400003), (bq_ BK399), (bq_ BK401), (bh_ HB)⟩)
         ·refine gq_ Tryz.func22 (by kernel_rfl) rfl #[.int .i64 (wrap64 (((rd_T23 t396 x14_2).f1) - 1))] (by rfl) rfl rfl ?_
          with_reducible refine (num_Dec.calls (wrap64 (((rd_T23 t396 x14_2).f1) - 1)) t412 _ A48.out ?tb30_).mono ?_
          (case tb30_ => exact tb_ HTAB HB)
          rintro e w57 ⟨rfl, hb⟩
          refine ⟨_, rfl, ?_⟩
          replace HO_400003 := Aside0.mk (Kd.R_below (ky_ HO_400003) hb)
          replace HO406 := Aside0.mk (Kd.R_below (ky_ HO406) hb)
          replace BK399 := bb_ BK399 hb
          replace BK401 := bb_ BK401 hb
          replace HB := bs_ HB hb
          (try clear hb)
          refine hK.out _ _ (k3_ BK401) (fun hHeld => ?_)
          clear hK K
          refine nm_ 103 ?_
          exact nx_ (hJ2_13_19 () _ ⟨hHeld, (ky_ HO406), (ky_ HO_400003), (bq_ BK399), (bq_ BK401), (bh_ HB)⟩)
         skip
         refine Kd.R_lit_step (Kd.int .u8) _ 5 ?hg (N := 108) ?hd (xs := ([(rd_T23 t396 x14_2).f2] : List Int)) (inner := [.int .u8 ((rd_T23 t396 x14_2).f2)]) (ok := fun _ => True) (okp := fun _ => True) ?hr ?hp (fun _ hk => hk) trivial (Below.refl _ _) (Nat.le_refl _) (by simp) ?_; (case hd => rfl); (case hg => rfl); (case hr => first | (go_simp; done) | (go_simp; rfl)); (case hp => exact (Reps.one (show Kd.M (Kd.int .u8) _ _ _ ((rd_T23 t396 x14_2).f2) [.int .u8 ((rd_T23 t396 x14_2).f2)] from rfl) (Reps.none _ _)))
         intro v414 w57 ho58 hb hg_ hnew_
         clear hg_ hnew_
         (first | rw [← Ny413.out] at ho58 | (simp only [Int.reduceToNat] at ho58; rw [← Ny413.out] at ho58))
         replace HO_400003 := Aside0.mk (Kd.R_below (ky_ HO_400003) hb)
         have HO415 := Aside0.mk (Kd.R_lower (Kd.R_new' ho58 (Kd.R_lt (ky_ HO406))) (below_size (bh_ HB)))
         replace HO406 := Aside0.mk (Kd.R_elder' (ky_ HO406) (Kd.R_base ho58) hb)
         replace BK399 := bb_ BK399 hb
         replace BK401 := bb_ BK401 hb
         replace HB := bs_ HB hb
         clear hb ho58
         refine hK.out _ _ (k3_ BK401) (fun hHeld => ?_)
         clear hK K
         refine nm_ 108 ?_
         exact nx_ (hJ2_13_24 (v414) _ ⟨hHeld, (by (with_reducible repeat (first | apply Kd.R_alloc | apply Kd.R_drewN | apply Kd.R_drew)); exact Kd.R_mono HO406.out (fun _ hk => hk.2)), (by (with_reducible repeat (first | apply Kd.R_alloc | apply Kd.R_drewN | apply Kd.R_drew)); exact Kd.R_mono HO415.out (fun _ hk => hk.2)), (ky_ HO_400003), (bq_ BK399), (bq_ BK401), (bh_ HB)⟩)
       intro hJ2_13
       refine join_ (σ := Value) 14 bz_62 (fun s_ => [(86, .string t407), (108, s_), (87, .string (t407 ++ (⟨#[32, 49, 32]⟩ : ByteArray)))]) (fun s_ w' => (w'.cell? ⟨gb401, 0, none⟩ = some (.int .i64 ((rd_T23 t396 x14_2).f0)) ∧ w'.cell? ⟨gb401, 1, none⟩ = some (.int .i64 ((rd_T23 t396 x14_2).f1)) ∧ w'.cell? ⟨gb401, 2, none⟩ = some (.int .u8 ((rd_T23 t396 x14_2).f2))) ∧ (Kd.R (Kd.int .u8) 5 w' w.heap.size (fun k_ => some k_ ≠ (s_ : Value).ownBlock) v405 y404) ∧ (Kd.R (Kd.int .u8) 5 w' w.heap.size (fun k_ => some k_ ≠ (v405 : Value).ownBlock) s_ y413) ∧ (Kd.R k23 23 w' w.heap.size (fun k_ => k_ ≠ gb401) (.slice (some ad400) t396.length co13) t396) ∧ (w'.heap[gb399]? = some (.cells #[.int .i64 0, .int .i64 0, .int .u8 43, .slice (some ad400) t396.length co13] 26 (0, 0))) ∧ (w'.heap[gb401]? = some (.cells #[.int .i64 ((rd_T23 t396 x14_2).f0), .int .i64 ((rd_T23 t396 x14_2).f1), .int .u8 ((rd_T23 t396 x14_2).f2)] 23 (0, 0))) ∧ (Below w.heap.size w w')) ?_ ?_
       ·as_aux_lemma =>
         clear HO_400003 HO406 BK399 BK401 HB
         rintro v414 w57 ⟨hHeld, h0_, h1_, h2_, h3_, h4_, h5_⟩
         have HO406 := Aside0.mk h0_; have HO415 := Aside0.mk h1_; have HO_400003 := Aside0.mk h2_; have BK399 := Aside0.mk h3_; have BK401 := Aside0.mk h4_; have HB := Aside0.mk h5_; clear h0_ h1_ h2_ h3_ h4_ h5_
         refine norm_ (a' := ?_) ?_ ?_
         rotate_left
         ·simp only [putAll, Act.put, List.setIfInBounds_toArray, List.set_cons_zero, List.set_cons_succ]
          rfl
         refine three_ (i := 6) (j := 13) (k := 25) (Ni := some 90) (Nj := some 97) (Nk := some 109) bz_50 bz_53 bz_54 rfl rfl rfl rfl rfl rfl (three_of HT_.out (by kernel_rfl)) (by decide) (by decide) (by decide) (fun K hK => ?_) (fun K hK => ?_) (fun K hK => ?_)
         ·refine Kd.R_lit_step (Kd.int .u8) _ 5 ?hg (N := 90) ?hd (xs := ([(rd_T23 t396 x14_2).f2] : List Int)) (inner := [.int .u8 ((rd_T23 t396 x14_2).f2)]) (ok := fun _ => True) (okp := fun _ => True) ?hr ?hp (fun _ hk => hk) trivial (Below.refl _ _) (Nat.le_refl _) (by simp) ?_; (case hd => rfl); (case hg => rfl); (case hr => first | (go_simp; done) | (go_simp; rfl)); (case hp => exact (Reps.one (show Kd.M (Kd.int .u8) _ _ _ ((rd_T23 t396 x14_2).f2) [.int .u8 ((rd_T23 t396 x14_2).f2)] from rfl) (Reps.none _ _)))
          intro v409 w58 ho59 hb hg_ hnew_
          clear hg_ hnew_
          (first | rw [← Ny408.out] at ho59 | (simp only [Int.reduceToNat] at ho59; rw [← Ny408.out] at ho59))
          replace HO_400003 := Aside0.mk (Kd.R_below (ky_ HO_400003) hb)
          have HO410 := Aside0.mk (Kd.R_lower (Kd.R_new' (Kd.R_new' ho59 (Kd.R_lt (ky_ HO406))) (Kd.R_lt (ky_ HO415))) (below_size (bh_ HB)))
          replace HO406 := Aside0.mk (Kd.R_elder' (ky_ HO406) (Kd.R_base ho59) hb)
          replace HO415 := Aside0.mk (Kd.R_elder' (ky_ HO415) (Kd.R_base ho59) hb)
          replace BK399 := bb_ BK399 hb
          replace BK401 := bb_ BK401 hb
          replace HB := bs_ HB hb
          clear hb ho59
          refine hK.out _ _ (k3_ BK401) (fun hHeld => ?_)
          clear hK K
          refine nm_ 90 ?_
          exact nx_ (hJ2_6_24 (v409, v414) _ ⟨hHeld, (by (with_reducible repeat (first | apply Kd.R_alloc | apply Kd.R_drewN | apply Kd.R_drew)); exact Kd.R_mono HO406.out (fun _ hk => ⟨hk.2, hk.1⟩)), (by (with_reducible repeat (first | apply Kd.R_alloc | apply Kd.R_drewN | apply Kd.R_drew)); exact Kd.R_mono HO410.out (fun _ hk => ⟨hk.1.2, hk.2⟩)), (ky_ HO415), (ky_ HO_400003), (bq_ BK399), (bq_ BK401), (bh_ HB)⟩)
         ·refine gq_ Tryz.func22 (by kernel_rfl) rfl #[.int .i64 (wrap64 (((rd_T23 t396 x14_2).f0) + 1))] (by rfl) rfl rfl ?_
          with_reducible refine (num_Dec.calls (wrap64 (((rd_T23 t396 x14_2).f0) + 1)) t411 _ A45.out ?tb28_).mono ?_
          (case tb28_ => exact tb_ HTAB HB)
          rintro e w58 ⟨rfl, hb⟩
          refine ⟨_, rfl, ?_⟩
          replace HO_400003 := Aside0.mk (Kd.R_below (ky_ HO_400003) hb)
          replace HO406 := Aside0.mk (Kd.R_below (ky_ HO406) hb)
          replace HO415 := Aside0.mk (Kd.R_below (ky_ HO415) hb)
          replace BK399 := bb_ BK399 hb
          replace BK401 := bb_ BK401 hb
          replace HB := bs_ HB hb
          (try clear hb)
          refine hK.out _ _ (k3_ BK401) (fun hHeld => ?_)
          clear hK K
          refine nm_ 97 ?_
          exact nx_ (hJ2_13_24 (v414) _ ⟨hHeld, (ky_ HO406), (ky_ HO415), (ky_ HO_400003), (bq_ BK399), (bq_ BK401), (bh_ HB)⟩)
         skip
         have hcv58 := own_string (P := Tryz.prog) Tryz.underlying39 Tryz.underlying5 Tryz.underlying9 (Kd.own_of_R HO415.out)
         refine value_ (w1 := ?_) (v := ?_) (by rfl) rfl ?_ ?_
         rotate_left 2
         ·go_simp
          constructor
          ·rfl
          rfl
         clear hcv58
         refine hK.out _ _ (k3_ BK401) (fun hHeld => ?_)
         clear hK K
         refine nm_ 109 ?_
         exact nx_ (hJ2_24_25 (v414) _ ⟨hHeld, (ky_ HO406), (ky_ HO415), (ky_ HO_400003), (bq_ BK399), (bq_ BK401), (bh_ HB)⟩)
       intro hJ2_24
       refine join_ (σ := Value) 15 bz_63 (fun s_ => [(90, s_), (91, .string (strOfNums y408))]) (fun s_ w' => (w'.cell? ⟨gb401, 0, none⟩ = some (.int .i64 ((rd_T23 t396 x14_2).f0)) ∧ w'.cell? ⟨gb401, 1, none⟩ = some (.int .i64 ((rd_T23 t396 x14_2).f1)) ∧ w'.cell? ⟨gb401, 2, none⟩ = some (.int .u8 ((rd_T23 t396 x14_2).f2))) ∧ (Kd.R (Kd.int .u8) 5 w' w.heap.size (fun k_ => some k_ ≠ (s_ : Value).ownBlock) v405 y404) ∧ (Kd.R (Kd.int .u8) 5 w' w.heap.size (fun k_ => some k_ ≠ (v405 : Value).ownBlock) s_ y408) ∧ (Kd.R k23 23 w' w.heap.size (fun k_ => k_ ≠ gb401) (.slice (some ad400) t396.length co13) t396) ∧ (w'.heap[gb399]? = some (.cells #[.int .i64 0, .int .i64 0, .int .u8 43, .slice (some ad400) t396.length co13] 26 (0, 0))) ∧ (w'.heap[gb401]? = some (.cells #[.int .i64 ((rd_T23 t396 x14_2).f0), .int .i64 ((rd_T23 t396 x14_2).f1), .int .u8 ((rd_T23 t396 x14_2).f2)] 23 (0, 0))) ∧ (Below w.heap.size w w')) ?_ ?_
       ·as_aux_lemma =>
         clear HO_400003 HO406 BK399 BK401 HB
         rintro v409 w57 ⟨hHeld, h0_, h1_, h2_, h3_, h4_, h5_⟩
         have HO406 := Aside0.mk h0_; have HO410 := Aside0.mk h1_; have HO_400003 := Aside0.mk h2_; have BK399 := Aside0.mk h3_; have BK401 := Aside0.mk h4_; have HB := Aside0.mk h5_; clear h0_ h1_ h2_ h3_ h4_ h5_
         refine norm_ (a' := ?_) ?_ ?_
         rotate_left
         ·simp only [putAll, Act.put, List.setIfInBounds_toArray, List.set_cons_zero, List.set_cons_succ]
          rfl
         refine two_ (i := 2) (j := 24) (Ni := some 86) (Nj := some 108) bz_64 bz_55 rfl rfl rfl rfl (two_of HT_.out (by kernel_rfl)) (by decide) (by decide) (fun K hK => ?_) (fun K hK => ?_)
         ·refine gq_ Tryz.func22 (by kernel_rfl) rfl #[.int .i64 ((rd_T23 t396 x14_2).f0)] (by rfl) rfl rfl ?_
          with_reducible refine (num_Dec.calls ((rd_T23 t396 x14_2).f0) t407 _ A41.out ?tb26_).mono ?_
          (case tb26_ => exact tb_ HTAB HB)
          rintro e w58 ⟨rfl, hb⟩
          refine ⟨_, rfl, ?_⟩
          replace HO_400003 := Aside0.mk (Kd.R_below (ky_ HO_400003) hb)
          replace HO406 := Aside0.mk (Kd.R_below (ky_ HO406) hb)
          replace HO410 := Aside0.mk (Kd.R_below (ky_ HO410) hb)
          replace BK399 := bb_ BK399 hb
          replace BK401 := bb_ BK401 hb
          replace HB := bs_ HB hb
          (try clear hb)
          refine hK.out _ _ (k3_ BK401) (fun hHeld => ?_)
          clear hK K
          refine nm_ 86 ?_
          refine pu_ 3 87 (lb_ 29 13049087) rfl rfl (ao_ HT_) ?_
          refine pu_ 8 92 (lb_ 29 13049343) rfl rfl (ao_ HT_) ?_
          refine pu_ 9 93 (lb_ 29 13049855) rfl rfl (ao_ HT_) ?_
          exact nx_ (hJ2_6_7 (v409) _ ⟨hHeld, (ky_ HO406), (ky_ HO410), (ky_ HO_400003), (bq_ BK399), (bq_ BK401), (bh_ HB)⟩)
         skip
         refine Kd.R_lit_step (Kd.int .u8) _ 5 ?hg (N := 108) ?hd (xs := ([(rd_T23 t396 x14_2).f2] : List Int)) (inner := [.int .u8 ((rd_T23 t396 x14_2).f2)]) (ok := fun _ => True) (okp := fun _ => True) ?hr ?hp (fun _ hk => hk) trivial (Below.refl _ _) (Nat.le_refl _) (by simp) ?_; (case hd => rfl); (case hg => rfl); (case hr => first | (go_simp; done) | (go_simp; rfl)); (case hp => exact (Reps.one (show Kd.M (Kd.int .u8) _ _ _ ((rd_T23 t396 x14_2).f2) [.int .u8 ((rd_T23 t396 x14_2).f2)] from rfl) (Reps.none _ _)))
         intro v414 w58 ho59 hb hg_ hnew_
         clear hg_ hnew_
         (first | rw [← Ny413.out] at ho59 | (simp only [Int.reduceToNat] at ho59; rw [← Ny413.out] at ho59))
         replace HO_400003 := Aside0.mk (Kd.R_below (ky_ HO_400003) hb)
         have HO415 := Aside0.mk (Kd.R_lower (Kd.R_new' (Kd.R_new' ho59 (Kd.R_lt (ky_ HO406))) (Kd.R_lt (ky_ HO410))) (below_size (bh_ HB)))
         replace HO406 := Aside0.mk (Kd.R_elder' (ky_ HO406) (Kd.R_base ho59) hb)
         replace HO410 := Aside0.mk (Kd.R_elder' (ky_ HO410) (Kd.R_base ho59) hb)
         replace BK399 := bb_ BK399 hb
         replace BK401 := bb_ BK401 hb
         replace HB := bs_ HB hb
         clear hb ho59
         refine hK.out _ _ (k3_ BK401) (fun hHeld => ?_)
         clear hK K
         refine nm_ 108 ?_
         exact nx_ (hJ6_7_24 (v409, v414) _ ⟨hHeld, (ky_ HO406), (ky_ HO410), (by (with_reducible repeat (first | apply Kd.R_alloc | apply Kd.R_drewN | apply Kd.R_drew)); exact Kd.R_mono HO415.out (fun _ hk => ⟨hk.1.2, hk.2⟩)), (ky_ HO_400003), (bq_ BK399), (bq_ BK401), (bh_ HB)⟩)
       intro hJ6_7
       refine join_ (σ := Value × Value) 15 bz_65 (fun s_ => [(90, s_.1), (108, s_.2)]) (fun s_ w' => (w'.cell? ⟨gb401, 0, none⟩ = some (.int .i64 ((rd_T23 t396 x14_2).f0)) ∧ w'.cell? ⟨gb401, 1, none⟩ = some (.int .i64 ((rd_T23 t396 x14_2).f1)) ∧ w'.cell? ⟨gb401, 2, none⟩ = some (.int .u8 ((rd_T23 t396 x14_2).f2))) ∧ (Kd.R (Kd.int .u8) 5 w' w.heap.size (fun k_ => some k_ ≠ (s_.1 : Value).ownBlock ∧ some k_ ≠ (s_.2 : Value).ownBlock) v405 y404) ∧ (Kd.R (Kd.int .u8) 5 w' w.heap.size (fun k_ => some k_ ≠ (v405 : Value).ownBlock ∧ some k_ ≠ (s_.2 : Value).ownBlock) s_.1 y408) ∧ (Kd.R (Kd.int .u8) 5 w' w.heap.size (fun k_ => some k_ ≠ (v405 : Value).ownBlock ∧ some k_ ≠ (s_.1 : Value).ownBlock) s_.2 y413) ∧ (Kd.R k23 23 w' w.heap.size (fun k_ => k_ ≠ gb401) (.slice (some ad400) t396.length co13) t396) ∧ (w'.heap[gb399]? = some (.cells #[.int .i64 0, .int .i64 0, .int .u8 43, .slice (some ad400) t396.length co13] 26 (0, 0))) ∧ (w'.heap[gb401]? = some (.cells #[.int .i64 ((rd_T23 t396 x14_2).f0), .int .i64 ((rd_T23 t396 x14_2).f1), .int .u8 ((rd_T23 t396 x14_2).f2)] 23 (0, 0))) ∧ (Below w.heap.size w w')) ?_ ?_
       ·as_aux_lemma =>
         clear HO_400003 HO406 BK399 BK401 HB
         rintro ⟨v409, v414⟩ w58 ⟨hHeld, h0_, h1_, h2_, h3_, h4_, h5_, h6_⟩
         (try dsimp only at hHeld); (try dsimp only at h0_); (try dsimp only at h1_); (try dsimp only at h2_); (try dsimp only at h3_); (try dsimp only at h4_); (try dsimp only at h5_); (try dsimp only at h6_)
         have HO406 := Aside0.mk h0_; have HO410 := Aside0.mk h1_; have HO415 := Aside0.mk h2_; have HO_400003 := Aside0.mk h3_; have BK399 := Aside0.mk h4_; have BK401 := Aside0.mk h5_; have HB := Aside0.mk h6_; clear h0_ h1_ h2_ h3_ h4_ h5_ h6_
         refine norm_ (a' := ?_) ?_ ?_
         rotate_left
         ·simp only [putAll, Act.put, List.setIfInBounds_toArray, List.set_cons_zero, List.set_cons_succ]
          rfl
         refine three_ (i := 2) (j := 7) (k := 25) (Ni := some 86) (Nj := some 91) (Nk := some 109) bz_66 bz_55 bz_57 rfl rfl rfl rfl rfl rfl (three_of HT_.out (by kernel_rfl)) (by decide) (by decide) (by decide) (fun K hK => ?_) (fun K hK => ?_) (fun K hK => ?_)
         ·refine gq_ Tryz.func22 (by kernel_rfl) rfl #[.int .i64 ((rd_T23 t396 x14_2).f0)] (by rfl) rfl rfl ?_
          with_reducible refine (num_Dec.calls ((rd_T23 t396 x14_2).f0) t407 _ A41.out ?tb24_).mono ?_
          (case tb24_ => exact tb_ HTAB HB)
          rintro e w59 ⟨rfl, hb⟩
          refine ⟨_, rfl, ?_⟩
          replace HO_400003 := Aside0.mk (Kd.R_below (ky_ HO_400003) hb)
          replace HO406 := Aside0.mk (Kd.R_below (ky_ HO406) hb)
          replace HO410 := Aside0.mk (Kd.R_below (ky_ HO410) hb)
          replace HO415 := Aside0.mk (Kd.R_below (ky_ HO415) hb)
          replace BK399 := bb_ BK399 hb
          replace BK401 := bb_ BK401 hb
          replace HB := bs_ HB hb
          (try clear hb)
          refine hK.out _ _ (k3_ BK401) (fun hHeld => ?_)
          clear hK K
          refine nm_ 86 ?_
          refine pu_ 3 87 (lb_ 29 29826175) rfl rfl (ao_ HT_) ?_
          exact nx_ (hJ2_6_24 (v409, v414) _ ⟨hHeld, (ky_ HO406), (ky_ HO410), (ky_ HO415), (ky_ HO_400003), (bq_ BK399), (bq_ BK401), (bh_ HB)⟩)
         ·have hcv59 := own_string (P := Tryz.prog) Tryz.underlying39 Tryz.underlying5 Tryz.underlying9 (Kd.own_of_R HO410.out)
          refine value_ (w1 := ?_) (v := ?_) (by rfl) rfl ?_ ?_
          rotate_left 2
          ·go_simp
           constructor
           ·rfl
           rfl
          clear hcv59
          refine hK.out _ _ (k3_ BK401) (fun hHeld => ?_)
          clear hK K
          refine nm_ 91 ?_
          exact nx_ (hJ6_7_24 (v409, v414) _ ⟨hHeld, (ky_ HO406), (ky_ HO410), (ky_ HO415), (ky_ HO_400003), (bq_ BK399), (bq_ BK401), (bh_ HB)⟩)
         skip
         have hcv59 := own_string (P := Tryz.prog) Tryz.underlying39 Tryz.underlying5 Tryz.underlying9 (Kd.own_of_R HO415.out)
         refine value_ (w1 := ?_) (v := ?_) (by rfl) rfl ?_ ?_
         rotate_left 2
         ·go_simp
          constructor
          ·rfl
          rfl
         clear hcv59
         refine hK.out _ _ (k3_ BK401) (fun hHeld => ?_)
         clear hK K
         refine nm_ 109 ?_
         exact nx_ (hJ6_24_25 (v409, v414) _ ⟨hHeld, (ky_ HO406), (ky_ HO410), (ky_ HO415), (ky_ HO_400003), (bq_ BK399), (bq_ BK401), (bh_ HB)⟩)
       intro hJ6_24
       refine join_ (σ := Value) 15 bz_67 (fun s_ => [(108, s_), (109, .string (strOfNums y413))]) (fun s_ w' => (w'.cell? ⟨gb401, 0, none⟩ = some (.int .i64 ((rd_T23 t396 x14_2).f0)) ∧ w'.cell? ⟨gb401, 1, none⟩ = some (.int .i64 ((rd_T23 t396 x14_2).f1)) ∧ w'.cell? ⟨gb401, 2, none⟩ = some (.int .u8 ((rd_T23 t396 x14_2).f2))) ∧ (Kd.R (Kd.int .u8) 5 w' w.heap.size (fun k_ => some k_ ≠ (s_ : Value).ownBlock) v405 y404) ∧ (Kd.R (Kd.int .u8) 5 w' w.heap.size (fun k_ => some k_ ≠ (v405 : Value).ownBlock) s_ y413) ∧ (Kd.R k23 23 w' w.heap.size (fun k_ => k_ ≠ gb401) (.slice (some ad400) t396.length co13) t396) ∧ (w'.heap[gb399]? = some (.cells #[.int .i64 0, .int .i64 0, .int .u8 43, .slice (some ad400) t396.length co13] 26 (0, 0))) ∧ (w'.heap[gb401]? = some (.cells #[.int .i64 ((rd_T23 t396 x14_2).f0), .int .i64 ((rd_T23 t396 x14_2).f1), .int .u8 ((rd_T23 t396 x14_2).f2)] 23 (0, 0))) ∧ (Below w.heap.size w w')) ?_ ?_
       ·as_aux_lemma =>
         clear HO_400003 HO406 BK399 BK401 HB
         rintro v414 w57 ⟨hHeld, h0_, h1_, h2_, h3_, h4_, h5_⟩
         have HO406 := Aside0.mk h0_; have HO415 := Aside0.mk h1_; have HO_400003 := Aside0.mk h2_; have BK399 := Aside0.mk h3_; have BK401 := Aside0.mk h4_; have HB := Aside0.mk h5_; clear h0_ h1_ h2_ h3_ h4_ h5_
         refine norm_ (a' := ?_) ?_ ?_
         rotate_left
         ·simp only [putAll, Act.put, List.setIfInBounds_toArray, List.set_cons_zero, List.set_cons_succ]
          rfl
         refine two_ (i := 2) (j := 6) (Ni := some 86) (Nj := some 90) bz_68 bz_57 rfl rfl rfl rfl (two_of HT_.out (by kernel_rfl)) (by decide) (by decide) (fun K hK => ?_) (fun K hK => ?_)
         ·refine gq_ Tryz.func22 (by kernel_rfl) rfl #[.int .i64 ((rd_T23 t396 x14_2).f0)] (by rfl) rfl rfl ?_
          with_reducible refine (num_Dec.calls ((rd_T23 t396 x14_2).f0) t407 _ A41.out ?tb22_).mono ?_
          (case tb22_ => exact tb_ HTAB HB)
          rintro e w58 ⟨rfl, hb⟩
          refine ⟨_, rfl, ?_⟩
          replace HO_400003 := Aside0.mk (Kd.R_below (ky_ HO_400003) hb)
          replace HO406 := Aside0.mk (Kd.R_below (ky_ HO406) hb)
          replace HO415 := Aside0.mk (Kd.R_below (ky_ HO415) hb)
          replace BK399 := bb_ BK399 hb
          replace BK401 := bb_ BK401 hb
          replace HB := bs_ HB hb
          (try clear hb)
          refine hK.out _ _ (k3_ BK401) (fun hHeld => ?_)
          clear hK K
          refine nm_ 86 ?_
          refine pu_ 3 87 (lb_ 29 63380543) rfl rfl (ao_ HT_) ?_
          exact nx_ (hJ2_24_25 (v414) _ ⟨hHeld, (ky_ HO406), (ky_ HO415), (ky_ HO_400003), (bq_ BK399), (bq_ BK401), (bh_ HB)⟩)
         skip
         refine Kd.R_lit_step (Kd.int .u8) _ 5 ?hg (N := 90) ?hd (xs := ([(rd_T23 t396 x14_2).f2] : List Int)) (inner := [.int .u8 ((rd_T23 t396 x14_2).f2)]) (ok := fun _ => True) (okp := fun _ => True) ?hr ?hp (fun _ hk => hk) trivial (Below.refl _ _) (Nat.le_refl _) (by simp) ?_; (case hd => rfl); (case hg => rfl); (case hr => first | (go_simp; done) | (go_simp; rfl)); (case hp => exact (Reps.one (show Kd.M (Kd.int .u8) _ _ _ ((rd_T23 t396 x14_2).f2) [.int .u8 ((rd_T23 t396 x14_2).f2)] from rfl) (Reps.none _ _)))
         intro v409 w58 ho59 hb hg_ hnew_
         clear hg_ hnew_
         (first | rw [← Ny408.out] at ho59 | (simp only [Int.reduceToNat] at ho59; rw [← Ny408.out] at ho59))
         replace HO_400003 := Aside0.mk (Kd.R_below (ky_ HO_400003) hb)
         have HO410 := Aside0.mk (Kd.R_lower (Kd.R_new' (Kd.R_new' ho59 (Kd.R_lt (ky_ HO406))) (Kd.R_lt (ky_ HO415))) (below_size (bh_ HB)))
         replace HO406 := Aside0.mk (Kd.R_elder' (ky_ HO406) (Kd.R_base ho59) hb)
         replace HO415 := Aside0.mk (Kd.R_elder' (ky_ HO415) (Kd.R_base ho59) hb)
         replace BK399 := bb_ BK399 hb
         replace BK401 := bb_ BK401 hb
         replace HB := bs_ HB hb
         clear hb ho59
         refine hK.out _ _ (k3_ BK401) (fun hHeld => ?_)
         clear hK K
         refine nm_ 90 ?_
         exact nx_ (hJ6_24_25 (v409, v414) _ ⟨hHeld, (by (with_reducible repeat (first | apply Kd.R_alloc | apply Kd.R_drewN | apply Kd.R_drew)); exact Kd.R_mono HO406.out (fun _ hk => ⟨hk.2, hk.1⟩)), (by (with_reducible repeat (first | apply Kd.R_alloc | apply Kd.R_drewN | apply Kd.R_drew)); exact Kd.R_mono HO410.out (fun _ hk => ⟨hk.1.2, hk.2⟩)), (ky_ HO415), (ky_ HO_400003), (bq_ BK399), (bq_ BK401), (bh_ HB)⟩)
       intro hJ24_25
       refine join_ (σ := Unit) 15 bz_69 (fun s_ => [(86, .string t407), (87, .string (t407 ++ (⟨#[32, 49, 32]⟩ : ByteArray)))]) (fun s_ w' => (w'.cell? ⟨gb401, 0, none⟩ = some (.int .i64 ((rd_T23 t396 x14_2).f0)) ∧ w'.cell? ⟨gb401, 1, none⟩ = some (.int .i64 ((rd_T23 t396 x14_2).f1)) ∧ w'.cell? ⟨gb401, 2, none⟩ = some (.int .u8 ((rd_T23 t396 x14_2).f2))) ∧ (Kd.R (Kd.int .u8) 5 w' w.heap.size (fun _ => True) v405 y404) ∧ (Kd.R k23 23 w' w.heap.size (fun k_ => k_ ≠ gb401) (.slice (some ad400) t396.length co13) t396) ∧ (w'.heap[gb399]? = some (.cells #[.int .i64 0, .int .i64 0, .int .u8 43, .slice (some ad400) t396.length co13] 26 (0, 0))) ∧ (w'.heap[gb401]? = some (.cells #[.int .i64 ((rd_T23 t396 x14_2).f0), .int .i64 ((rd_T23 t396 x14_2).f1), .int .u8 ((rd_T23 t396 x14_2).f2)] 23 (0, 0))) ∧ (Below w.heap.size w w')) ?_ ?_
       ·as_aux_lemma =>
         clear HO_400003 HO406 BK399 BK401 HB
         rintro _ w55 ⟨hHeld, h0_, h1_, h2_, h3_, h4_⟩
         have HO406 := Aside0.mk h0_; have HO_400003 := Aside0.mk h1_; have BK399 := Aside0.mk h2_; have BK401 := Aside0.mk h3_; have HB := Aside0.mk h4_; clear h0_ h1_ h2_ h3_ h4_
         refine norm_ (a' := ?_) ?_ ?_
         rotate_left
         ·simp only [putAll, Act.put, List.setIfInBounds_toArray, List.set_cons_zero, List.set_cons_succ]
          rfl
         refine three_ (i := 6) (j := 13) (k := 24) (Ni := some 90) (Nj := some 97) (Nk := some 108) bz_59 bz_61 bz_62 rfl rfl rfl rfl rfl rfl (three_of HT_.out (by kernel_rfl)) (by decide) (by decide) (by decide) (fun K hK => ?_) (fun K hK => ?_) (fun K hK => ?_)
         ·refine Kd.R_lit_step (Kd.int .u8) _ 5 ?hg (N := 90) ?hd (xs := ([(rd_T23 t396 x14_2).f2] : List Int)) (inner := [.int .u8 ((rd_T23 t396 x14_2).f2)]) (ok := fun _ => True) (okp := fun _ => True) ?hr ?hp (fun _ hk => hk) trivial (Below.refl _ _) (Nat.le_refl _) (by simp) ?_; (case hd => rfl); (case hg => rfl); (case hr => first | (go_simp; done) | (go_simp; rfl)); (case hp => exact (Reps.one (show Kd.M (Kd.int .u8) _ _ _ ((rd_T23 t396 x14_2).f2) [.int .u8 ((rd_T23 t396 x14_2).f2)] from rfl) (Reps.none _ _)))
          intro v409 w56 ho57 hb hg_ hnew_
          clear hg_ hnew_
          (first | rw [← Ny408.out] at ho57 | (simp only [Int.reduceToNat] at ho57; rw [← Ny408.out] at ho57))
          replace HO_400003 := Aside0.mk (Kd.R_below (ky_ HO_400003) hb)
          have HO410 := Aside0.mk (Kd.R_lower (Kd.R_new' ho57 (Kd.R_lt (ky_ HO406))) (below_size (bh_ HB)))
          replace HO406 := Aside0.mk (Kd.R_elder' (ky_ HO406) (Kd.R_base ho57) hb)
          replace BK399 := bb_ BK399 hb
          replace BK401 := bb_ BK401 hb
          replace HB := bs_ HB hb
          clear hb ho57
          refine hK.out _ _ (k3_ BK401) (fun hHeld => ?_)
          clear hK K
          refine nm_ 90 ?_
          exact nx_ (hJ2_6 (v409) _ ⟨hHeld, (by (with_reducible repeat (first | apply Kd.R_alloc | apply Kd.R_drewN | apply Kd.R_drew)); exact Kd.R_mono HO406.out (fun _ hk => hk.2)), (by (with_reducible repeat (first | apply Kd.R_alloc | apply Kd.R_drewN | apply Kd.R_drew)); exact Kd.R_mono HO410.out (fun _ hk => hk.2)), (ky_ HO_400003), (bq_ BK399), (bq_ BK401), (bh_ HB)⟩)
         ·refine gq_ Tryz.func22 (by kernel_rfl) rfl #[.int .i64 (wrap64 (((rd_T23 t396 x14_2).f0) + 1))] (by rfl) rfl rfl ?_
          with_reducible refine (num_Dec.calls (wrap64 (((rd_T23 t396 x14_2).f0) + 1)) t411 _ A45.out ?tb20_).mono ?_
          (case tb20_ => exact tb_ HTAB HB)
          rintro e w56 ⟨rfl, hb⟩
          refine ⟨_, rfl, ?_⟩
          replace HO_400003 := Aside0.mk (Kd.R_below (ky_ HO_400003) hb)
          replace HO406 := Aside0.mk (Kd.R_below (ky_ HO406) hb)
          replace BK399 := bb_ BK399 hb
          replace BK401 := bb_ BK401 hb
          replace HB := bs_ HB hb
          (try clear hb)
          refine hK.out _ _ (k3_ BK401) (fun hHeld => ?_)
          clear hK K
          refine nm_ 97 ?_
          exact nx_ (hJ2_13 () _ ⟨hHeld, (ky_ HO406), (ky_ HO_400003), (bq_ BK399), (bq_ BK401), (bh_ HB)⟩)
         skip
         refine Kd.R_lit_step (Kd.int .u8) _ 5 ?hg (N := 108) ?hd (xs := ([(rd_T23 t396 x14_2).f2] : List Int)) (inner := [.int .u8 ((rd_T23 t396 x14_2).f2)]) (ok := fun _ => True) (okp := fun _ => True) ?hr ?hp (fun _ hk => hk) trivial (Below.refl _ _) (Nat.le_refl _) (by simp) ?_; (case hd => rfl); (case hg => rfl); (case hr => first | (go_simp; done) | (go_simp; rfl)); (case hp => exact (Reps.one (show Kd.M (Kd.int .u8) _ _ _ ((rd_T23 t396 x14_2).f2) [.int .u8 ((rd_T23 t396 x14_2).f2)] from rfl) (Reps.none _ _)))
         intro v414 w56 ho57 hb hg_ hnew_
         clear hg_ hnew_
         (first | rw [← Ny413.out] at ho57 | (simp only [Int.reduceToNat] at ho57; rw [← Ny413.out] at ho57))
         replace HO_400003 := Aside0.mk (Kd.R_below (ky_ HO_400003) hb)
         have HO415 := Aside0.mk (Kd.R_lower (Kd.R_new' ho57 (Kd.R_lt (ky_ HO406))) (below_size (bh_ HB)))
         replace HO406 := Aside0.mk (Kd.R_elder' (ky_ HO406) (Kd.R_base ho57) hb)
         replace BK399 := bb_ BK399 hb
         replace BK401 := bb_ BK401 hb
         replace HB := bs_ HB hb
         clear hb ho57
         refine hK.out _ _ (k3_ BK401) (fun hHeld => ?_)
         clear hK K
         refine nm_ 108 ?_
         exact nx_ (hJ2_24 (v414) _ ⟨hHeld, (by (with_reducible repeat (first | apply Kd.R_alloc | apply Kd.R_drewN | apply Kd.R_drew)); exact Kd.R_mono HO406.out (fun _ hk => hk.2)), (by (with_reducible repeat (first | apply Kd.R_alloc | apply Kd.R_drewN | apply Kd.R_drew)); exact Kd.R_mono HO415.out (fun _ hk => hk.2)), (ky_ HO_400003), (bq_ BK399), (bq_ BK401), (bh_ HB)⟩)
       intro hJ2
       refine join_ (σ := Value) 16 bz_70 (fun s_ => [(90, s_)]) (fun s_ w' => (w'.cell? ⟨gb401, 0, none⟩ = some (.int .i64 ((rd_T23 t396 x14_2).f0)) ∧ w'.cell? ⟨gb401, 1, none⟩ = some (.int .i64 ((rd_T23 t396 x14_2).f1)) ∧ w'.cell? ⟨gb401, 2, none⟩ = some (.int .u8 ((rd_T23 t396 x14_2).f2))) ∧ (Kd.R (Kd.int .u8) 5 w' w.heap.size (fun k_ => some k_ ≠ (s_ : Value).ownBlock) v405 y404) ∧ (Kd.R (Kd.int .u8) 5 w' w.heap.size (fun k_ => some k_ ≠ (v405 : Value).ownBlock) s_ y408) ∧ (Kd.R k23 23 w' w.heap.size (fun k_ => k_ ≠ gb401) (.slice (some ad400) t396.length co13) t396) ∧ (w'.heap[gb399]? = some (.cells #[.int .i64 0, .int .i64 0, .int .u8 43, .slice (some ad400) t396.length co13] 26 (0, 0))) ∧ (w'.heap[gb401]? = some (.cells #[.int .i64 ((rd_T23 t396 x14_2).f0), .int .i64 ((rd_T23 t396 x14_2).f1), .int .u8 ((rd_T23 t396 x14_2).f2)] 23 (0, 0))) ∧ (Below w.heap.size w w')) ?_ ?_
       ·as_aux_lemma =>
         clear HO_400003 HO406 BK399 BK401 HB
         rintro v409 w56 ⟨hHeld, h0_, h1_, h2_, h3_, h4_, h5_⟩
         have HO406 := Aside0.mk h0_; have HO410 := Aside0.mk h1_; have HO_400003 := Aside0.mk h2_; have BK399 := Aside0.mk h3_; have BK401 := Aside0.mk h4_; have HB := Aside0.mk h5_; clear h0_ h1_ h2_ h3_ h4_ h5_
         refine norm_ (a' := ?_) ?_ ?_
         rotate_left
         ·simp only [putAll, Act.put, List.setIfInBounds_toArray, List.set_cons_zero, List.set_cons_succ]
          rfl
         refine three_ (i := 2) (j := 7) (k := 24) (Ni := some 86) (Nj := some 91) (Nk := some 108) bz_71 bz_63 bz_65 rfl rfl rfl rfl rfl rfl (three_of HT_.out (by kernel_rfl)) (by decide) (by decide) (by decide) (fun K hK => ?_) (fun K hK => ?_) (fun K hK => ?_)
         ·refine gq_ Tryz.func22 (by kernel_rfl) rfl #[.int .i64 ((rd_T23 t396 x14_2).f0)] (by rfl) rfl rfl ?_
          with_reducible refine (num_Dec.calls ((rd_T23 t396 x14_2).f0) t407 _ A41.out ?tb18_).mono ?_
          (case tb18_ => exact tb_ HTAB HB)
          rintro e w57 ⟨rfl, hb⟩
          refine ⟨_, rfl, ?_⟩
          replace HO_400003 := Aside0.mk (Kd.R_below (ky_ HO_400003) hb)
          replace HO406 := Aside0.mk (Kd.R_below (ky_ HO406) hb)
          replace HO410 := Aside0.mk (Kd.R_below (ky_ HO410) hb)
          replace BK399 := bb_ BK399 hb
          replace BK401 := bb_ BK401 hb
          replace HB := bs_ HB hb
          (try clear hb)
          refine hK.out _ _ (k3_ BK401) (fun hHeld => ?_)
          clear hK K
          refine nm_ 86 ?_
          refine pu_ 3 87 (lb_ 29 13048959) rfl rfl (ao_ HT_) ?_
          exact nx_ (hJ2_6 (v409) _ ⟨hHeld, (ky_ HO406), (ky_ HO410), (ky_ HO_400003), (bq_ BK399), (bq_ BK401), (bh_ HB)⟩)
         ·have hcv57 := own_string (P := Tryz.prog) Tryz.underlying39 Tryz.underlying5 Tryz.underlying9 (Kd.own_of_R HO410.out)
          refine value_ (w1 := ?_) (v := ?_) (by rfl) rfl ?_ ?_
          rotate_left 2
          ·go_simp
           constructor
           ·rfl
           rfl
          clear hcv57
          refine hK.out _ _ (k3_ BK401) (fun hHeld => ?_)
          clear hK K
          refine nm_ 91 ?_
          exact nx_ (hJ6_7 (v409) _ ⟨hHeld, (ky_ HO406), (ky_ HO410), (ky_ HO_400003), (bq_ BK399), (bq_ BK401), (bh_ HB)⟩)
         skip
         refine Kd.R_lit_step (Kd.int .u8) _ 5 ?hg (N := 108) ?hd (xs := ([(rd_T23 t396 x14_2).f2] : List Int)) (inner := [.int .u8 ((rd_T23 t396 x14_2).f2)]) (ok := fun _ => True) (okp := fun _ => True) ?hr ?hp (fun _ hk => hk) trivial (Below.refl _ _) (Nat.le_refl _) (by simp) ?_; (case hd => rfl); (case hg => rfl); (case hr => first | (go_simp; done) | (go_simp; rfl)); (case hp => exact (Reps.one (show Kd.M (Kd.int .u8) _ _ _ ((rd_T23 t396 x14_2).f2) [.int .u8 ((rd_T23 t396 x14_2).f2)] from rfl) (Reps.none _ _)))
         intro v414 w57 ho58 hb hg_ hnew_
         clear hg_ hnew_
         (first | rw [← Ny413.out] at ho58 | (simp only [Int.reduceToNat] at ho58; rw [← Ny413.out] at ho58))
         replace HO_400003 := Aside0.mk (Kd.R_below (ky_ HO_400003) hb)
         have HO415 := Aside0.mk (Kd.R_lower (Kd.R_new' (Kd.R_new' ho58 (Kd.R_lt (ky_ HO406))) (Kd.R_lt (ky_ HO410))) (below_size (bh_ HB)))
         replace HO406 := Aside0.mk (Kd.R_elder' (ky_ HO406) (Kd.R_base ho58) hb)
         replace HO410 := Aside0.mk (Kd.R_elder' (ky_ HO410) (Kd.R_base ho58) hb)
         replace BK399 := bb_ BK399 hb
         replace BK401 := bb_ BK401 hb
         replace HB := bs_ HB hb
         clear hb ho58
         refine hK.out _ _ (k3_ BK401) (fun hHeld => ?_)
         clear hK K
         refine nm_ 108 ?_
         exact nx_ (hJ6_24 (v409, v414) _ ⟨hHeld, (ky_ HO406), (ky_ HO410), (by (with_reducible repeat (first | apply Kd.R_alloc | apply Kd.R_drewN | apply Kd.R_drew)); exact Kd.R_mono HO415.out (fun _ hk => ⟨hk.1.2, hk.2⟩)), (ky_ HO_400003), (bq_ BK399), (bq_ BK401), (bh_ HB)⟩)
       intro hJ6
       refine join_ (σ := Value) 16 bz_72 (fun s_ => [(108, s_)]) (fun s_ w' => (w'.cell? ⟨gb401, 0, none⟩ = some (.int .i64 ((rd_T23 t396 x14_2).f0)) ∧ w'.cell? ⟨gb401, 1, none⟩ = some (.int .i64 ((rd_T23 t396 x14_2).f1)) ∧ w'.cell? ⟨gb401, 2, none⟩ = some (.int .u8 ((rd_T23 t396 x14_2).f2))) ∧ (Kd.R (Kd.int .u8) 5 w' w.heap.size (fun k_ => some k_ ≠ (s_ : Value).ownBlock) v405 y404) ∧ (Kd.R (Kd.int .u8) 5 w' w.heap.size (fun k_ => some k_ ≠ (v405 : Value).ownBlock) s_ y413) ∧ (Kd.R k23 23 w' w.heap.size (fun k_ => k_ ≠ gb401) (.slice (some ad400) t396.length co13) t396) ∧ (w'.heap[gb399]? = some (.cells #[.int .i64 0, .int .i64 0, .int .u8 43, .slice (some ad400) t396.length co13] 26 (0, 0))) ∧ (w'.heap[gb401]? = some (.cells #[.int .i64 ((rd_T23 t396 x14_2).f0), .int .i64 ((rd_T23 t396 x14_2).f1), .int .u8 ((rd_T23 t396 x14_2).f2)] 23 (0, 0))) ∧ (Below w.heap.size w w')) ?_ ?_
       ·as_aux_lemma =>
         clear HO_400003 HO406 BK399 BK401 HB
         rintro v414 w56 ⟨hHeld, h0_, h1_, h2_, h3_, h4_, h5_⟩
         have HO406 := Aside0.mk h0_; have HO415 := Aside0.mk h1_; have HO_400003 := Aside0.mk h2_; have BK399 := Aside0.mk h3_; have BK401 := Aside0.mk h4_; have HB := Aside0.mk h5_; clear h0_ h1_ h2_ h3_ h4_ h5_
         refine norm_ (a' := ?_) ?_ ?_
         rotate_left
         ·simp only [putAll, Act.put, List.setIfInBounds_toArray, List.set_cons_zero, List.set_cons_succ]
          rfl
         refine three_ (i := 2) (j := 6) (k := 25) (Ni := some 86) (Nj := some 90) (Nk := some 109) bz_73 bz_65 bz_67 rfl rfl rfl rfl rfl rfl (three_of HT_.out (by kernel_rfl)) (by decide) (by decide) (by decide) (fun K hK => ?_) (fun K hK => ?_) (fun K hK => ?_)
         ·refine gq_ Tryz.func22 (by kernel_rfl) rfl #[.int .i64 ((rd_T23 t396 x14_2).f0)] (by rfl) rfl rfl ?_
          with_reducible refine (num_Dec.calls ((rd_T23 t396 x14_2).f0) t407 _ A41.out ?tb16_).mono ?_
          (case tb16_ => exact tb_ HTAB HB)
          rintro e w57 ⟨rfl, hb⟩
          refine ⟨_, rfl, ?_⟩
          replace HO_400003 := Aside0.mk (Kd.R_below (ky_ HO_400003) hb)
          replace HO406 := Aside0.mk (Kd.R_below (ky_ HO406) hb)
          replace HO415 := Aside0.mk (Kd.R_below (ky_ HO415) hb)
          replace BK399 := bb_ BK399 hb
          replace BK401 := bb_ BK401 hb
          replace HB := bs_ HB hb
          (try clear hb)
          refine hK.out _ _ (k3_ BK401) (fun hHeld => ?_)
          clear hK K
          refine nm_ 86 ?_
          refine pu_ 3 87 (lb_ 29 29826111) rfl rfl (ao_ HT_) ?_
          exact nx_ (hJ2_24 (v414) _ ⟨hHeld, (ky_ HO406), (ky_ HO415), (ky_ HO_400003), (bq_ BK399), (bq_ BK401), (bh_ HB)⟩)
         ·refine Kd.R_lit_step (Kd.int .u8) _ 5 ?hg (N := 90) ?hd (xs := ([(rd_T23 t396 x14_2).f2] : List Int)) (inner := [.int .u8 ((rd_T23 t396 x14_2).f2)]) (ok := fun _ => True) (okp := fun _ => True) ?hr ?hp (fun _ hk => hk) trivial (Below.refl _ _) (Nat.le_refl _) (by simp) ?_; (case hd => rfl); (case hg => rfl); (case hr => first | (go_simp; done) | (go_simp; rfl)); (case hp => exact (Reps.one (show Kd.M (Kd.int .u8) _ _ _ ((rd_T23 t396 x14_2).f2) [.int .u8 ((rd_T23 t396 x14_2).f2)] from rfl) (Reps.none _ _)))
          intro v409 w57 ho58 hb hg_ hnew_
          clear hg_ hnew_
          (first | rw [← Ny408.out] at ho58 | (simp only [Int.reduceToNat] at ho58; rw [← Ny408.out] at ho58))
          replace HO_400003 := Aside0.mk (Kd.R_below (ky_ HO_400003) hb)
          have HO410 := Aside0.mk (Kd.R_lower (Kd.R_new' (Kd.R_new' ho58 (Kd.R_lt (ky_ HO406))) (Kd.R_lt (ky_ HO415))) (below_size (bh_ HB)))
          replace HO406 := Aside0.mk (Kd.R_elder' (ky_ HO406) (Kd.R_base ho58) hb)
          replace HO415 := Aside0.mk (Kd.R_elder' (ky_ HO415) (Kd.R_base ho58) hb)
          replace BK399 := bb_ BK399 hb
          replace BK401 := bb_ BK401 hb
          replace HB := bs_ HB hb
          clear hb ho58
          refine hK.out _ _ (k3_ BK401) (fun hHeld => ?_)
          clear hK K
          refine nm_ 90 ?_
          exact nx_ (hJ6_24 (v409, v414) _ ⟨hHeld, (by (with_reducible repeat (first | apply Kd.R_alloc | apply Kd.R_drewN | apply Kd.R_drew)); exact Kd.R_mono HO406.out (fun _ hk => ⟨hk.2, hk.1⟩)), (by (with_reducible repeat (first | apply Kd.R_alloc | apply Kd.R_drewN | apply Kd.R_drew)); exact Kd.R_mono HO410.out (fun _ hk => ⟨hk.1.2, hk.2⟩)), (ky_ HO415), (ky_ HO_400003), (bq_ BK399), (bq_ BK401), (bh_ HB)⟩)
         skip
         have hcv57 := own_string (P := Tryz.prog) Tryz.underlying39 Tryz.underlying5 Tryz.underlying9 (Kd.own_of_R HO415.out)
         refine value_ (w1 := ?_) (v := ?_) (by rfl) rfl ?_ ?_
         rotate_left 2
         ·go_simp
          constructor
          ·rfl
          rfl
         clear hcv57
         refine hK.out _ _ (k3_ BK401) (fun hHeld => ?_)
         clear hK K
         refine nm_ 109 ?_
         exact nx_ (hJ24_25 (v414) _ ⟨hHeld, (ky_ HO406), (ky_ HO415), (ky_ HO_400003), (bq_ BK399), (bq_ BK401), (bh_ HB)⟩)
       intro hJ24
       refine three_ (i := 2) (j := 6) (k := 24) (Ni := some 86) (Nj := some 90) (Nk := some 108) bz_74 bz_70 bz_72 rfl rfl rfl rfl rfl rfl (three_of HT_.out (by kernel_rfl)) (by decide) (by decide) (by decide) (fun K hK => ?_) (fun K hK => ?_) (fun K hK => ?_)
       ·refine gq_ Tryz.func22 (by kernel_rfl) rfl #[.int .i64 ((rd_T23 t396 x14_2).f0)] (by rfl) rfl rfl ?_
        with_reducible refine (num_Dec.calls ((rd_T23 t396 x14_2).f0) t407 _ A41.out ?tb14_).mono ?_
        (case tb14_ => exact tb_ HTAB HB)
        rintro e w54 ⟨rfl, hb⟩
        refine ⟨_, rfl, ?_⟩
        replace HO_400003 := Aside0.mk (Kd.R_below (ky_ HO_400003) hb)
        replace HO406 := Aside0.mk (Kd.R_below (ky_ HO406) hb)
        replace BK399 := bb_ BK399 hb
        replace BK401 := bb_ BK401 hb
        replace HB := bs_ HB hb
        (try clear hb)
        refine hK.out _ _ (k3_ BK401) (fun hHeld => ?_)
        clear hK K
        refine nm_ 86 ?_
        refine pu_ 3 87 (lb_ 29 13048895) rfl rfl (ao_ HT_) ?_
        exact nx_ (hJ2 () _ ⟨hHeld, (ky_ HO406), (ky_ HO_400003), (bq_ BK399), (bq_ BK401), (bh_ HB)⟩)
       ·refine Kd.R_lit_step (Kd.int .u8) _ 5 ?hg (N := 90) ?hd (xs := ([(rd_T23 t396 x14_2).f2] : List Int)) (inner := [.int .u8 ((rd_T23 t396 x14_2).f2)]) (ok := fun _ => True) (okp := fun _ => True) ?hr ?hp (fun _ hk => hk) trivial (Below.refl _ _) (Nat.le_refl _) (by simp) ?_; (case hd => rfl); (case hg => rfl); (case hr => first | (go_simp; done) | (go_simp; rfl)); (case hp => exact (Reps.one (show Kd.M (Kd.int .u8) _ _ _ ((rd_T23 t396 x14_2).f2) [.int .u8 ((rd_T23 t396 x14_2).f2)] from rfl) (Reps.none _ _)))
        intro v409 w54 ho55 hb hg_ hnew_
        clear hg_ hnew_
        (first | rw [← Ny408.out] at ho55 | (simp only [Int.reduceToNat] at ho55; rw [← Ny408.out] at ho55))
        replace HO_400003 := Aside0.mk (Kd.R_below (ky_ HO_400003) hb)
        have HO410 := Aside0.mk (Kd.R_lower (Kd.R_new' ho55 (Kd.R_lt (ky_ HO406))) (below_size (bh_ HB)))
        replace HO406 := Aside0.mk (Kd.R_elder' (ky_ HO406) (Kd.R_base ho55) hb)
        replace BK399 := bb_ BK399 hb
        replace BK401 := bb_ BK401 hb
        replace HB := bs_ HB hb
        clear hb ho55
        refine hK.out _ _ (k3_ BK401) (fun hHeld => ?_)
        clear hK K
        refine nm_ 90 ?_
        exact nx_ (hJ6 (v409) _ ⟨hHeld, (by (with_reducible repeat (first | apply Kd.R_alloc | apply Kd.R_drewN | apply Kd.R_drew)); exact Kd.R_mono HO406.out (fun _ hk => hk.2)), (by (with_reducible repeat (first | apply Kd.R_alloc | apply Kd.R_drewN | apply Kd.R_drew)); exact Kd.R_mono HO410.out (fun _ hk => hk.2)), (ky_ HO_400003), (bq_ BK399), (bq_ BK401), (bh_ HB)⟩)
       skip
       refine Kd.R_lit_step (Kd.int .u8) _ 5 ?hg (N := 108) ?hd (xs := ([(rd_T23 t396 x14_2).f2] : List Int)) (inner := [.int .u8 ((rd_T23 t396 x14_2).f2)]) (ok := fun _ => True) (okp := fun _ => True) ?hr ?hp (fun _ hk => hk) trivial (Below.refl _ _) (Nat.le_refl _) (by simp) ?_; (case hd => rfl); (case hg => rfl); (case hr => first | (go_simp; done) | (go_simp; rfl)); (case hp => exact (Reps.one (show Kd.M (Kd.int .u8) _ _ _ ((rd_T23 t396 x14_2).f2) [.int .u8 ((rd_T23 t396 x14_2).f2)] from rfl) (Reps.none _ _)))
       intro v414 w54 ho55 hb hg_ hnew_
       clear hg_ hnew_
       (first | rw [← Ny413.out] at ho55 | (simp only [Int.reduceToNat] at ho55; rw [← Ny413.out] at ho55))
       replace HO_400003 := Aside0.mk (Kd.R_below (ky_ HO_400003) hb)
       have HO415 := Aside0.mk (Kd.R_lower (Kd.R_new' ho55 (Kd.R_lt (ky_ HO406))) (below_size (bh_ HB)))
       replace HO406 := Aside0.mk (Kd.R_elder' (ky_ HO406) (Kd.R_base ho55) hb)
       replace BK399 := bb_ BK399 hb
       replace BK401 := bb_ BK401 hb
       replace HB := bs_ HB hb
       clear hb ho55
       refine hK.out _ _ (k3_ BK401) (fun hHeld => ?_)
       clear hK K
       refine nm_ 108 ?_
       exact nx_ (hJ24 (v414) _ ⟨hHeld, (by (with_reducible repeat (first | apply Kd.R_alloc | apply Kd.R_drewN | apply Kd.R_drew)); exact Kd.R_mono HO406.out (fun _ hk => hk.2)), (by (with_reducible repeat (first | apply Kd.R_alloc | apply Kd.R_drewN | apply Kd.R_drew)); exact Kd.R_mono HO415.out (fun _ hk => hk.2)), (ky_ HO_400003), (bq_ BK399), (bq_ BK401), (bh_ HB)⟩)
      clear HO_400003 HO406 BK399 BK401 HB
      rintro ⟨v409, v414⟩ w63 ⟨hHeld, h0_, h1_, h2_, h3_, h4_, h5_, h6_⟩
      (try dsimp only at hHeld); (try dsimp only at h0_); (try dsimp only at h1_); (try dsimp only at h2_); (try dsimp only at h3_); (try dsimp only at h4_); (try dsimp only at h5_); (try dsimp only at h6_)
      have HO406 := Aside0.mk h0_; have HO410 := Aside0.mk h1_; have HO415 := Aside0.mk h2_; have HO_400003 := Aside0.mk h3_; have BK399 := Aside0.mk h4_; have BK401 := Aside0.mk h5_; have HB := Aside0.mk h6_; clear h0_ h1_ h2_ h3_ h4_ h5_ h6_
      refine norm_ (a' := ?_) ?_ ?_
      rotate_left
      ·simp only [putAll, Act.put, List.setIfInBounds_toArray, List.set_cons_zero, List.set_cons_succ]
       rfl
      refine pu_ 26 110 (lb_ 29 134217727) rfl rfl (ao_ HT_) ?_
      refine pu_ 27 111 (lb_ 29 268435455) rfl rfl (ao_ HT_) ?_
      refine pu_ 28 16 (lb_ 29 536870911) rfl rfl (ao_ HT_) ?_
      refine done_ (done_of HT_.out (by kernel_rfl)) ?_
      try go_wp2
      go_meet
      case rel => exact ⟨_, (((((((((t407 ++ (⟨#[32, 49, 32]⟩ : ByteArray)) ++ (strOfNums y408)) ++ (⟨#[10]⟩ : ByteArray)) ++ t411) ++ (⟨#[32]⟩ : ByteArray)) ++ t412) ++ (⟨#[32]⟩ : ByteArray)) ++ (strOfNums y413)) ++ (⟨#[10]⟩ : ByteArray)), (by first | rfl | (simp; done) | (simp [*]; done)), H', ⟨by have := HJ4.out; have := HK2.out; first | omega | exact Nat.le_refl _⟩, ⟨by (with_reducible repeat (first | apply Kd.R_alloc | apply Kd.R_drewN | apply Kd.R_drew)); exact HO_400003.out⟩, ⟨bq_ BK399⟩, ⟨bq_ BK401⟩, ⟨bh_ HB⟩⟩
     case rest =>
      clear HC26
      try clear c2
      try clear p2
      try clear c4
      try clear c5
      try clear p6
      try clear hcv6
      try clear c22
      try clear c40
      try clear c40b0
      try clear c42
      try clear c43
      try clear c44
      try clear c46
      try clear c47
      try clear c49
      try clear c50
      try clear c51
      try clear c52
      try clear hcv62
      try clear hcv63
      obtain ⟨kq, x16_25, rfl, HA, HJ25, HO_400003, BK399, BK401, HB⟩ := hcut
      cases kq with
      | zero => exact absurd HA.out (by simp [salvorlaw17_MapParts.j2])
      | succ kj25 =>
       have H := HA.out
       clear HA
       simp only [salvorlaw17_MapParts.j2] at H
       by_cases c64 : x12_2.size + x16_25.size ≤ 9223372036854775807
       rotate_left
       ·rw [if_neg c64] at H
        exact absurd H (by simp)
       rw [if_pos c64] at H
       have c64b0 := eq_true c64
       have c64b1 : decide (x12_2.size + x16_25.size ≤ 9223372036854775807) = true := decide_eq_true c64
       try have c64b2 : (9223372036854775807 < x12_2.size + x16_25.size) = False := eq_false (Nat.not_lt.2 c64)
       by_cases c65 : (Int.tmod a3 4) = 0
       ·rw [if_pos c65] at H
        have c65b0 : ((Int.tmod a3 4) == 0) = true := beq_iff_eq.mpr c65
        have c65b1 : ((Int.tmod a3 4) != 0) = false := bne_eq_false_iff_eq.mpr c65
        clear c65
        replace H := Option.bind_eq_some_iff.mp H
        obtain ⟨t416, A660, H⟩ := H
        have A66 := Aside0.mk A660
        clear A660
        by_cases c67 : x13_2.size + t416.size ≤ 9223372036854775807
        rotate_left
        ·rw [if_neg c67] at H
         exact absurd H (by simp)
        rw [if_pos c67] at H
        have c67b0 := eq_true c67
        have c67b1 : decide (x13_2.size + t416.size ≤ 9223372036854775807) = true := decide_eq_true c67
        try have c67b2 : (9223372036854775807 < x13_2.size + t416.size) = False := eq_false (Nat.not_lt.2 c67)
        by_cases c68 : (x13_2 ++ t416).size + 1 ≤ 9223372036854775807
        rotate_left
        ·rw [if_neg c68] at H
         exact absurd H (by simp)
        rw [if_pos c68] at H
        have c68b0 := eq_true c68
        have c68b1 : decide ((x13_2 ++ t416).size + 1 ≤ 9223372036854775807) = true := decide_eq_true c68
        try have c68b2 : (9223372036854775807 < (x13_2 ++ t416).size + 1) = False := eq_false (Nat.not_lt.2 c68)
        try have c68b3 : (9223372036854775807 < x13_2.size + t416.size + 1) = False := eq_false (Nat.not_lt.2 (by have h_ := c68; simp only [ByteArray.size_append] at h_; exact h_))
        replace H := Option.bind_eq_some_iff.mp H
        obtain ⟨t417, A690, H⟩ := H
        have A69 := Aside0.mk A690
        clear A690
        by_cases c70 : ((x13_2 ++ t416) ++ (⟨#[32]⟩ : ByteArray)).size + t417.size ≤ 9223372036854775807
        rotate_left
        ·rw [if_neg c70] at H
         exact absurd H (by simp)
        rw [if_pos c70] at H
        have c70b0 := eq_true c70
        have c70b1 : decide (((x13_2 ++ t416) ++ (⟨#[32]⟩ : ByteArray)).size + t417.size ≤ 9223372036854775807) = true := decide_eq_true c70
        try have c70b2 : (9223372036854775807 < ((x13_2 ++ t416) ++ (⟨#[32]⟩ : ByteArray)).size + t417.size) = False := eq_false (Nat.not_lt.2 c70)
        try have c70b3 : (9223372036854775807 < x13_2.size + t416.size + 1 + t417.size) = False := eq_false (Nat.not_lt.2 (by have h_ := c70; simp only [ByteArray.size_append] at h_; exact h_))
        by_cases c71 : (((x13_2 ++ t416) ++ (⟨#[32]⟩ : ByteArray)) ++ t417).size + 3 ≤ 9223372036854775807
        rotate_left
        ·rw [if_neg c71] at H
         exact absurd H (by simp)
        rw [if_pos c71] at H
        have c71b0 := eq_true c71
        have c71b1 : decide ((((x13_2 ++ t416) ++ (⟨#[32]⟩ : ByteArray)) ++ t417).size + 3 ≤ 9223372036854775807) = true := decide_eq_true c71
        try have c71b2 : (9223372036854775807 < (((x13_2 ++ t416) ++ (⟨#[32]⟩ : ByteArray)) ++ t417).size + 3) = False := eq_false (Nat.not_lt.2 c71)
        try have c71b3 : (9223372036854775807 < x13_2.size + t416.size + 1 + t417.size + 3) = False := eq_false (Nat.not_lt.2 (by have h_ := c71; simp only [ByteArray.size_append] at h_; exact h_))
        have H' := Aside0.mk H
        clear H
        try go_wp2
        replace HO_400003 := Aside0.mk (Kd.R_drew HO_400003.out)
        replace BK399 := Aside0.mk (blk_drew BK399.out)
        replace BK401 := Aside0.mk (blk_drew BK401.out)
        replace HB := Aside0.mk (below_drew1 HB.out)
        refine start_ (n := 13) (S := fun w' => w'.cell? ⟨gb401, 0, none⟩ = some (.int .i64 ((rd_T23 t396 x14_2).f0)) ∧ w'.cell? ⟨gb401, 1, none⟩ = some (.int .i64 ((rd_T23 t396 x14_2).f1)) ∧ w'.cell? ⟨gb401, 2, none⟩ = some (.int .u8 ((rd_T23 t396 x14_2).f2))) (ds := []) bz_75 (by kernel_rfl) rfl rfl (k3_ BK401) (fun hHeld => ?_); refine with_tabW salvorlaw17_MapParts.tab22 salvorlaw17_MapParts.bits22 (fun HT_ HW_ => ?_)
        generalize wc.drew = w72 at HO_400003 BK399 BK401 HB hHeld ⊢
        refine pu_ 0 127 (lb_ 13 1) rfl rfl (ao_ HT_) ?_
        refine pu_ 1 128 (lb_ 13 3) rfl rfl (ao_ HT_) ?_
        refine pu_ 7 134 (lb_ 13 131) rfl rfl (ao_ HT_) ?_
        refine tk_ 2 129 (lb_ 13 135) rfl rfl (take_ofW HT_.out HW_.out (by kernel_rfl)) hHeld ?_
        refine pu_ 3 130 (lb_ 13 143) rfl rfl (ao_ HT_) ?_
        refine tk_ 8 135 (lb_ 13 399) rfl rfl (take_ofW HT_.out HW_.out (by kernel_rfl)) hHeld ?_
        refine one_ (i := 4) (N := some 131) bz_76 rfl rfl (one_of HT_.out (by kernel_rfl)) (by decide) (fun K hK => ?_)
        refine gq_ Tryz.func22 (by kernel_rfl) rfl #[.int .i64 (wrap64 (((rd_T23 t396 x14_2).f0) + 1))] (by rfl) rfl rfl ?_
        with_reducible refine (num_Dec.calls (wrap64 (((rd_T23 t396 x14_2).f0) + 1)) t416 _ A66.out ?tb68_).mono ?_
        (case tb68_ => exact tb_ HTAB HB)
        rintro e w73 ⟨rfl, hb⟩
        refine ⟨_, rfl, ?_⟩
        replace HO_400003 := Aside0.mk (Kd.R_below (ky_ HO_400003) hb)
        replace BK399 := bb_ BK399 hb
        replace BK401 := bb_ BK401 hb
        replace HB := bs_ HB hb
        (try clear hb)
        refine hK.out _ _ (k3_ BK401) (fun hHeld => ?_)
        clear hK K
        refine nm_ 131 ?_
        refine pu_ 5 132 (lb_ 13 447) rfl rfl (ao_ HT_) ?_
        refine pu_ 6 133 (lb_ 13 511) rfl rfl (ao_ HT_) ?_
        refine one_ (i := 9) (N := some 136) bz_77 rfl rfl (one_of HT_.out (by kernel_rfl)) (by decide) (fun K hK => ?_)
        refine gq_ Tryz.func22 (by kernel_rfl) rfl #[.int .i64 ((rd_T23 t396 x14_2).f1)] (by rfl) rfl rfl ?_
        with_reducible refine (num_Dec.calls ((rd_T23 t396 x14_2).f1) t417 _ A69.out ?tb70_).mono ?_
        (case tb70_ => exact tb_ HTAB HB)
        rintro e w74 ⟨rfl, hb⟩
        refine ⟨_, rfl, ?_⟩
        replace HO_400003 := Aside0.mk (Kd.R_below (ky_ HO_400003) hb)
        replace BK399 := bb_ BK399 hb
        replace BK401 := bb_ BK401 hb
        replace HB := bs_ HB hb
        (try clear hb)
        refine hK.out _ _ (k3_ BK401) (fun hHeld => ?_)
        clear hK K
        refine nm_ 136 ?_
        refine pu_ 10 137 (lb_ 13 2047) rfl rfl (ao_ HT_) ?_
        refine pu_ 11 138 (lb_ 13 4095) rfl rfl (ao_ HT_) ?_
        refine pu_ 12 13 (lb_ 13 8191) rfl rfl (ao_ HT_) ?_
        refine done_ (done_of HT_.out (by kernel_rfl)) ?_
        try go_wp2
        go_roundg kj25
        case measure => have := HJ4.out; have := HK2.out; have := HJ25.out; omega
        case rel => exact ⟨(x12_2 ++ x16_25), ((((x13_2 ++ t416) ++ (⟨#[32]⟩ : ByteArray)) ++ t417) ++ (⟨#[32, 43, 10]⟩ : ByteArray)), (wrap64 (x14_2 + 1)), (by first | rfl | (simp; done) | (simp [*]; done)), (by first | rfl | (simp; done) | (simp [*]; done)), (by first | rfl | (simp; done) | (simp [*]; done)), H', ⟨by have := HJ4.out; have := HK2.out; have := HJ25.out; omega⟩, ⟨by (with_reducible repeat (first | apply Kd.R_alloc | apply Kd.R_drewN | apply Kd.R_drew)); exact Kd.R_mono HO_400003.out (fun _ hk => trivial)⟩, ⟨bq_ BK399⟩, ⟨bh_ HB⟩⟩
       rw [if_neg c65] at H
       have c65b0 : ((Int.tmod a3 4) == 0) = false := beq_eq_false_iff_ne.mpr c65
       have c65b1 : ((Int.tmod a3 4) != 0) = true := bne_iff_ne.mpr c65
       by_cases c75 : (Int.tmod a3 4) = 1
       ·rw [if_pos c75] at H
        have c75b0 : ((Int.tmod a3 4) == 1) = true := beq_iff_eq.mpr c75
        have c75b1 : ((Int.tmod a3 4) != 1) = false := bne_eq_false_iff_eq.mpr c75
        clear c75
        replace H := Option.bind_eq_some_iff.mp H
        obtain ⟨t418, A760, H⟩ := H
        have A76 := Aside0.mk A760
        clear A760
        by_cases c77 : x13_2.size + t418.size ≤ 9223372036854775807
        rotate_left
        ·rw [if_neg c77] at H
         exact absurd H (by simp)
        rw [if_pos c77] at H
        have c77b0 := eq_true c77
        have c77b1 : decide (x13_2.size + t418.size ≤ 9223372036854775807) = true := decide_eq_true c77
        try have c77b2 : (9223372036854775807 < x13_2.size + t418.size) = False := eq_false (Nat.not_lt.2 c77)
        by_cases c78 : (x13_2 ++ t418).size + 5 ≤ 9223372036854775807
        rotate_left
        ·rw [if_neg c78] at H
         exact absurd H (by simp)
        rw [if_pos c78] at H
        have c78b0 := eq_true c78
        have c78b1 : decide ((x13_2 ++ t418).size + 5 ≤ 9223372036854775807) = true := decide_eq_true c78
        try have c78b2 : (9223372036854775807 < (x13_2 ++ t418).size + 5) = False := eq_false (Nat.not_lt.2 c78)
        try have c78b3 : (9223372036854775807 < x13_2.size + t418.size + 5) = False := eq_false (Nat.not_lt.2 (by have h_ := c78; simp only [ByteArray.size_append] at h_; exact h_))
        by_cases c79 : ((x13_2 ++ t418) ++ (⟨#[32, 48, 32, 43, 10]⟩ : ByteArray)).size + x16_25.size ≤ 9223372036854775807
        rotate_left
        ·rw [if_neg c79] at H
         exact absurd H (by simp)
        rw [if_pos c79] at H
        have c79b0 := eq_true c79
        have c79b1 : decide (((x13_2 ++ t418) ++ (⟨#[32, 48, 32, 43, 10]⟩ : ByteArray)).size + x16_25.size ≤ 9223372036854775807) = true := decide_eq_true c79
        try have c79b2 : (9223372036854775807 < ((x13_2 ++ t418) ++ (⟨#[32, 48, 32, 43, 10]⟩ : ByteArray)).size + x16_25.size) = False := eq_false (Nat.not_lt.2 c79)
        try have c79b3 : (9223372036854775807 < x13_2.size + t418.size + 5 + x16_25.size) = False := eq_false (Nat.not_lt.2 (by have h_ := c79; simp only [ByteArray.size_append] at h_; exact h_))
        have H' := Aside0.mk H
        clear H
        have hnb80 := NB401_399.out
        have hnc80 := NB399_401.out
        obtain ⟨hcz81_0, hcz81_1, hcz81_2, hfz81_0, hfz81_1, hfz81_2⟩ := c3_ BK401
        go_wp2_with (first | ((with_reducible refine gate_callee (f := 22) rfl ?_); refine gl_ (some 144) rfl rfl Tryz.func22 (by kernel_rfl) rfl #[.int .i64 ((rd_T23 t396 x14_2).f0)] rfl ?_; (with_reducible refine (num_Dec.calls ((rd_T23 t396 x14_2).f0) t418 _ A76.out ?tb72_).mono ?_); (case tb72_ => exact tb_ HTAB HB); rintro e w82 ⟨rfl, hb⟩; refine ⟨_, rfl, ?_⟩; have n0_ := Aside0.mk (Kd.R_below (ky_ HO_400003) hb); have n1_ := bb_ BK399 hb; have n2_ := bb_ BK401 hb; have n3_ := bs_ HB hb; clear HO_400003; clear BK399; clear BK401; clear HB; have HO_400003 := n0_; have BK399 := n1_; have BK401 := n2_; have HB := n3_; clear n0_ n1_ n2_ n3_; (try clear hb)))
        go_roundg kj25
        case measure => have := HJ4.out; have := HK2.out; have := HJ25.out; omega
        case rel => exact ⟨(x12_2 ++ x16_25), (((x13_2 ++ t418) ++ (⟨#[32, 48, 32, 43, 10]⟩ : ByteArray)) ++ x16_25), (wrap64 (x14_2 + 1)), (by first | rfl | (simp; done) | (simp [*]; done)), (by first | rfl | (simp; done) | (simp [*]; done)), (by first | rfl | (simp; done) | (simp [*]; done)), H', ⟨by have := HJ4.out; have := HK2.out; have := HJ25.out; omega⟩, ⟨by (with_reducible repeat (first | apply Kd.R_alloc | apply Kd.R_drewN | apply Kd.R_drew)); exact Kd.R_mono HO_400003.out (fun _ hk => trivial)⟩, ⟨bq_ BK399⟩, ⟨bh_ HB⟩⟩
       rw [if_neg c75] at H
       have c75b0 : ((Int.tmod a3 4) == 1) = false := beq_eq_false_iff_ne.mpr c75
       have c75b1 : ((Int.tmod a3 4) != 1) = true := bne_iff_ne.mpr c75
       by_cases c83 : (Int.tmod a3 4) = 2
       rotate_left
       ·rw [if_neg c83] at H
        have c83b0 : ((Int.tmod a3 4) == 2) = false := beq_eq_false_iff_ne.mpr c83
        have c83b1 : ((Int.tmod a3 4) != 2) = true := bne_iff_ne.mpr c83
        by_cases c93 : x13_2.size + x16_25.size ≤ 9223372036854775807
        rotate_left
        ·rw [if_neg c93] at H
         exact absurd H (by simp)
        rw [if_pos c93] at H
        have c93b0 := eq_true c93
        have c93b1 : decide (x13_2.size + x16_25.size ≤ 9223372036854775807) = true := decide_eq_true c93
        try have c93b2 : (9223372036854775807 < x13_2.size + x16_25.size) = False := eq_false (Nat.not_lt.2 c93)
        replace H := Option.bind_eq_some_iff.mp H
        obtain ⟨t421, A940, H⟩ := H
        have A94 := Aside0.mk A940
        clear A940
        by_cases c95 : (x13_2 ++ x16_25).size + t421.size ≤ 9223372036854775807
        rotate_left
        ·rw [if_neg c95] at H
         exact absurd H (by simp)
        rw [if_pos c95] at H
        have c95b0 := eq_true c95
        have c95b1 : decide ((x13_2 ++ x16_25).size + t421.size ≤ 9223372036854775807) = true := decide_eq_true c95
        try have c95b2 : (9223372036854775807 < (x13_2 ++ x16_25).size + t421.size) = False := eq_false (Nat.not_lt.2 c95)
        try have c95b3 : (9223372036854775807 < x13_2.size + x16_25.size + t421.size) = False := eq_false (Nat.not_lt.2 (by have h_ := c95; simp only [ByteArray.size_append] at h_; exact h_))
        by_cases c96 : ((x13_2 ++ x16_25) ++ t421).size + 5 ≤ 9223372036854775807
        rotate_left
        ·rw [if_neg c96] at H
         exact absurd H (by simp)
        rw [if_pos c96] at H
        have c96b0 := eq_true c96
        have c96b1 : decide (((x13_2 ++ x16_25) ++ t421).size + 5 ≤ 9223372036854775807) = true := decide_eq_true c96
        try have c96b2 : (9223372036854775807 < ((x13_2 ++ x16_25) ++ t421).size + 5) = False := eq_false (Nat.not_lt.2 c96)
        try have c96b3 : (9223372036854775807 < x13_2.size + x16_25.size + t421.size + 5) = False := eq_false (Nat.not_lt.2 (by have h_ := c96; simp only [ByteArray.size_append] at h_; exact h_))
        have H' := Aside0.mk H
        clear H
        have hnb97 := NB401_399.out
        have hnc97 := NB399_401.out
        obtain ⟨hcz98_0, hcz98_1, hcz98_2, hfz98_0, hfz98_1, hfz98_2⟩ := c3_ BK401
        go_wp2_with (first | ((with_reducible refine gate_callee (f := 22) rfl ?_); refine gl_ (some 122) rfl rfl Tryz.func22 (by kernel_rfl) rfl #[.int .i64 ((rd_T23 t396 x14_2).f0)] rfl ?_; (with_reducible refine (num_Dec.calls ((rd_T23 t396 x14_2).f0) t421 _ A94.out ?tb78_).mono ?_); (case tb78_ => exact tb_ HTAB HB); rintro e w99 ⟨rfl, hb⟩; refine ⟨_, rfl, ?_⟩; have n0_ := Aside0.mk (Kd.R_below (ky_ HO_400003) hb); have n1_ := bb_ BK399 hb; have n2_ := bb_ BK401 hb; have n3_ := bs_ HB hb; clear HO_400003; clear BK399; clear BK401; clear HB; have HO_400003 := n0_; have BK399 := n1_; have BK401 := n2_; have HB := n3_; clear n0_ n1_ n2_ n3_; (try clear hb)))
        go_roundg kj25
        case measure => have := HJ4.out; have := HK2.out; have := HJ25.out; omega
        case rel => exact ⟨(x12_2 ++ x16_25), (((x13_2 ++ x16_25) ++ t421) ++ (⟨#[32, 49, 32, 43, 10]⟩ : ByteArray)), (wrap64 (x14_2 + 1)), (by first | rfl | (simp; done) | (simp [*]; done)), (by first | rfl | (simp; done) | (simp [*]; done)), (by first | rfl | (simp; done) | (simp [*]; done)), H', ⟨by have := HJ4.out; have := HK2.out; have := HJ25.out; omega⟩, ⟨by (with_reducible repeat (first | apply Kd.R_alloc | apply Kd.R_drewN | apply Kd.R_drew)); exact Kd.R_mono HO_400003.out (fun _ hk => trivial)⟩, ⟨bq_ BK399⟩, ⟨bh_ HB⟩⟩
       rw [if_pos c83] at H
       have c83b0 : ((Int.tmod a3 4) == 2) = true := beq_iff_eq.mpr c83
       have c83b1 : ((Int.tmod a3 4) != 2) = false := bne_eq_false_iff_eq.mpr c83
       clear c83
       replace H := Option.bind_eq_some_iff.mp H
       obtain ⟨t419, A840, H⟩ := H
       have A84 := Aside0.mk A840
       clear A840
       by_cases c85 : x13_2.size + t419.size ≤ 9223372036854775807
       rotate_left
       ·rw [if_neg c85] at H
        exact absurd H (by simp)
       rw [if_pos c85] at H
       have c85b0 := eq_true c85
       have c85b1 : decide (x13_2.size + t419.size ≤ 9223372036854775807) = true := decide_eq_true c85
       try have c85b2 : (9223372036854775807 < x13_2.size + t419.size) = False := eq_false (Nat.not_lt.2 c85)
       by_cases c86 : (x13_2 ++ t419).size + 1 ≤ 9223372036854775807
       rotate_left
       ·rw [if_neg c86] at H
        exact absurd H (by simp)
       rw [if_pos c86] at H
       have c86b0 := eq_true c86
       have c86b1 : decide ((x13_2 ++ t419).size + 1 ≤ 9223372036854775807) = true := decide_eq_true c86
       try have c86b2 : (9223372036854775807 < (x13_2 ++ t419).size + 1) = False := eq_false (Nat.not_lt.2 c86)
       try have c86b3 : (9223372036854775807 < x13_2.size + t419.size + 1) = False := eq_false (Nat.not_lt.2 (by have h_ := c86; simp only [ByteArray.size_append] at h_; exact h_))
       replace H := Option.bind_eq_some_iff.mp H
       obtain ⟨t420, A870, H⟩ := H
       have A87 := Aside0.mk A870
       clear A870
       by_cases c88 : ((x13_2 ++ t419) ++ (⟨#[32]⟩ : ByteArray)).size + t420.size ≤ 9223372036854775807
       rotate_left
       ·rw [if_neg c88] at H
        exact absurd H (by simp)
       rw [if_pos c88] at H
       have c88b0 := eq_true c88
       have c88b1 : decide (((x13_2 ++ t419) ++ (⟨#[32]⟩ : ByteArray)).size + t420.size ≤ 9223372036854775807) = true := decide_eq_true c88
       try have c88b2 : (9223372036854775807 < ((x13_2 ++ t419) ++ (⟨#[32]⟩ : ByteArray)).size + t420.size) = False := eq_false (Nat.not_lt.2 c88)
       try have c88b3 : (9223372036854775807 < x13_2.size + t419.size + 1 + t420.size) = False := eq_false (Nat.not_lt.2 (by have h_ := c88; simp only [ByteArray.size_append] at h_; exact h_))
       by_cases c89 : (((x13_2 ++ t419) ++ (⟨#[32]⟩ : ByteArray)) ++ t420).size + 3 ≤ 9223372036854775807
       rotate_left
       ·rw [if_neg c89] at H
        exact absurd H (by simp)
       rw [if_pos c89] at H
       have c89b0 := eq_true c89
       have c89b1 : decide ((((x13_2 ++ t419) ++ (⟨#[32]⟩ : ByteArray)) ++ t420).size + 3 ≤ 9223372036854775807) = true := decide_eq_true c89
       try have c89b2 : (9223372036854775807 < (((x13_2 ++ t419) ++ (⟨#[32]⟩ : ByteArray)) ++ t420).size + 3) = False := eq_false (Nat.not_lt.2 c89)
       try have c89b3 : (9223372036854775807 < x13_2.size + t419.size + 1 + t420.size + 3) = False := eq_false (Nat.not_lt.2 (by have h_ := c89; simp only [ByteArray.size_append] at h_; exact h_))
       have H' := Aside0.mk H
       clear H
       try go_wp2
       replace HO_400003 := Aside0.mk (Kd.R_drew HO_400003.out)
       replace BK399 := Aside0.mk (blk_drew BK399.out)
       replace BK401 := Aside0.mk (blk_drew BK401.out)
       replace HB := Aside0.mk (below_drew1 HB.out)
       refine start_ (n := 12) (S := fun w' => w'.cell? ⟨gb401, 0, none⟩ = some (.int .i64 ((rd_T23 t396 x14_2).f0)) ∧ w'.cell? ⟨gb401, 1, none⟩ = some (.int .i64 ((rd_T23 t396 x14_2).f1)) ∧ w'.cell? ⟨gb401, 2, none⟩ = some (.int .u8 ((rd_T23 t396 x14_2).f2))) (ds := []) bz_78 (by kernel_rfl) rfl rfl (k3_ BK401) (fun hHeld => ?_); refine with_tabW salvorlaw17_MapParts.tab26 salvorlaw17_MapParts.bits26 (fun HT_ HW_ => ?_)
       generalize wc.drew = w90 at HO_400003 BK399 BK401 HB hHeld ⊢
       refine pu_ 0 151 (lb_ 12 1) rfl rfl (ao_ HT_) ?_
       refine pu_ 1 152 (lb_ 12 3) rfl rfl (ao_ HT_) ?_
       refine pu_ 6 157 (lb_ 12 67) rfl rfl (ao_ HT_) ?_
       refine tk_ 2 153 (lb_ 12 71) rfl rfl (take_ofW HT_.out HW_.out (by kernel_rfl)) hHeld ?_
       refine tk_ 7 158 (lb_ 12 199) rfl rfl (take_ofW HT_.out HW_.out (by kernel_rfl)) hHeld ?_
       refine one_ (i := 3) (N := some 154) bz_79 rfl rfl (one_of HT_.out (by kernel_rfl)) (by decide) (fun K hK => ?_)
       refine gq_ Tryz.func22 (by kernel_rfl) rfl #[.int .i64 ((rd_T23 t396 x14_2).f0)] (by rfl) rfl rfl ?_
       with_reducible refine (num_Dec.calls ((rd_T23 t396 x14_2).f0) t419 _ A84.out ?tb74_).mono ?_
       (case tb74_ => exact tb_ HTAB HB)
       rintro e w91 ⟨rfl, hb⟩
       refine ⟨_, rfl, ?_⟩
       replace HO_400003 := Aside0.mk (Kd.R_below (ky_ HO_400003) hb)
       replace BK399 := bb_ BK399 hb
       replace BK401 := bb_ BK401 hb
       replace HB := bs_ HB hb
       (try clear hb)
       refine hK.out _ _ (k3_ BK401) (fun hHeld => ?_)
       clear hK K
       refine nm_ 154 ?_
       refine pu_ 4 155 (lb_ 12 223) rfl rfl (ao_ HT_) ?_
       refine pu_ 5 156 (lb_ 12 255) rfl rfl (ao_ HT_) ?_
       refine one_ (i := 8) (N := some 159) bz_80 rfl rfl (one_of HT_.out (by kernel_rfl)) (by decide) (fun K hK => ?_)
       refine gq_ Tryz.func22 (by kernel_rfl) rfl #[.int .i64 ((rd_T23 t396 x14_2).f1)] (by rfl) rfl rfl ?_
       with_reducible refine (num_Dec.calls ((rd_T23 t396 x14_2).f1) t420 _ A87.out ?tb76_).mono ?_
       (case tb76_ => exact tb_ HTAB HB)
       rintro e w92 ⟨rfl, hb⟩
       refine ⟨_, rfl, ?_⟩
       replace HO_400003 := Aside0.mk (Kd.R_below (ky_ HO_400003) hb)
       replace BK399 := bb_ BK399 hb
       replace BK401 := bb_ BK401 hb
       replace HB := bs_ HB hb
       (try clear hb)
       refine hK.out _ _ (k3_ BK401) (fun hHeld => ?_)
       clear hK K
       refine nm_ 159 ?_
       refine pu_ 9 160 (lb_ 12 1023) rfl rfl (ao_ HT_) ?_
       refine pu_ 10 161 (lb_ 12 2047) rfl rfl (ao_ HT_) ?_
       refine pu_ 11 13 (lb_ 12 4095) rfl rfl (ao_ HT_) ?_
       refine done_ (done_of HT_.out (by kernel_rfl)) ?_
       try go_wp2
       go_roundg kj25
       case measure => have := HJ4.out; have := HK2.out; have := HJ25.out; omega
       case rel => exact ⟨(x12_2 ++ x16_25), ((((x13_2 ++ t419) ++ (⟨#[32]⟩ : ByteArray)) ++ t420) ++ (⟨#[32, 120, 10]⟩ : ByteArray)), (wrap64 (x14_2 + 1)), (by first | rfl | (simp; done) | (simp [*]; done)), (by first | rfl | (simp; done) | (simp [*]; done)), (by first | rfl | (simp; done) | (simp [*]; done)), H', ⟨by have := HJ4.out; have := HK2.out; have := HJ25.out; omega⟩, ⟨by (with_reducible repeat (first | apply Kd.R_alloc | apply Kd.R_drewN | apply Kd.R_drew)); exact Kd.R_mono HO_400003.out (fun _ hk => trivial)⟩, ⟨bq_ BK399⟩, ⟨bh_ HB⟩⟩

end Go.Proofs.YtlcablcpcbmgeaaGreatDoor.P
