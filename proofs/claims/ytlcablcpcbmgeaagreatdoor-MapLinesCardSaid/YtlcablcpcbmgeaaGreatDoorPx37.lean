/- Laid by a program of this session's own (wip/wprint.py, over the kit's print.py): functions of the given program as plain Lean functions, and that the program's calls come to their answers. -/
import Derived.Test.YtlcablcpcbmgeaaGreatDoorPx0
import Derived.Test.YtlcablcpcbmgeaaGreatDoorPx5
import Derived.Test.YtlcablcpcbmgeaaGreatDoorPx21
import Derived.Test.YtlcablcpcbmgeaaGreatDoorPx22
import Derived.Test.YtlcablcpcbmgeaaGreatDoorPx23
import Derived.Test.YtlcablcpcbmgeaaGreatDoorPx35
namespace Go.Proofs.YtlcablcpcbmgeaaGreatDoor.P
open Go.RowKit Go.Proofs.YtlcablcpcbmgeaaGreatDoorW.PrintWords Go.Proofs.YtlcablcpcbmgeaaGreatDoorW.PrintLast Go.Proofs.YtlcablcpcbmgeaaGreatDoorW.PrintMore
attribute [local go_sem] max2_int min2_int max_two min_two max_three min_three max_four min_four   -- for this text's walks alone
set_option linter.unusedVariables false
set_option linter.unusedSimpArgs false

/-! ### salvorlaw17_MapLines: function 6 -/
def salvorlaw17_MapLines.l0 : Nat → List ByteArray → ByteArray → Int → Option (Bool)
 | 0, _, _, _ => none
 | k + 1, x0, x3, x4 => if x4 < (x0.length : Int) then (if 0 ≤ x4 then (if ((rdOf ByteArray.empty x0 x4).size : Int) > 60 then ((salvorlaw17_MapRuns.f k).bind fun t310 => (some t310)) else (if x3.size + (rdOf ByteArray.empty x0 x4).size ≤ 9223372036854775807 then (if (x3 ++ (rdOf ByteArray.empty x0 x4)).size + 1 ≤ 9223372036854775807 then (salvorlaw17_MapLines.l0 k x0 ((x3 ++ (rdOf ByteArray.empty x0 x4)) ++ (⟨#[10]⟩ : ByteArray)) (wrap64 (x4 + 1))) else (none)) else (none))) else (none)) else ((maptext_Parse.f k x3).bind fun bt312 => ((salvorref16_Parse.f k x3).bind fun bt320 => ((salvorref16_SameMap.f k bt312.1 bt312.2.1 bt312.2.2.1 bt312.2.2.2.1 bt320.1 bt320.2.1 bt320.2.2.1 bt320.2.2.2.1).bind fun t328 => (if t328 = true then (if bt312.2.2.2.2 = bt320.2.2.2.2 then (if bt312.2.2.2.2 = 0 then ((maptext_May.f k bt312.1 bt312.2.1 bt312.2.2.1 bt312.2.2.2.1).bind fun t329 => (if t329 = true then ((salvorlaw17_MapRuns.f k).bind fun t330 => (some t330)) else (some false))) else ((salvorlaw17_MapRuns.f k).bind fun t331 => (some t331))) else (some false)) else (some false)))))
def salvorlaw17_MapLines.f (k : Nat) (l0 : List ByteArray) : Option (Bool) := if (l0.length : Int) > 40 then ((salvorlaw17_MapRuns.f k).bind fun t308 => (some t308)) else (salvorlaw17_MapLines.l0 k l0 (⟨#[]⟩ : ByteArray) 0)
theorem salvorlaw17_MapLines.mono_l : ∀ k, (∀ y0 y1 y2, LeO (salvorlaw17_MapLines.l0 k y0 y1 y2) (salvorlaw17_MapLines.l0 (k + 1) y0 y1 y2))
 | 0 => fun _ _ _ r h => by simp [salvorlaw17_MapLines.l0] at h
 | k + 1 => by
  have ih0 := salvorlaw17_MapLines.mono_l k
  ·intro y0 y1 y2
   unfold salvorlaw17_MapLines.l0
   repeat' first
   | (with_reducible exact ih0 _ _ _)
   | (with_reducible exact maptext_May.mono _ _ _ _ _)
   | (with_reducible exact maptext_Parse.mono _ _)
   | (with_reducible exact salvorlaw17_MapRuns.mono _)
   | (with_reducible exact salvorref16_Parse.mono _ _)
   | (with_reducible exact salvorref16_SameMap.mono _ _ _ _ _ _ _ _ _)
   | (with_reducible exact LeO.refl _)
   | (with_reducible exact LeO.none _)
   | (with_reducible refine LeO.ite ?_ ?_)
   | (with_reducible refine LeO.bind ?_ (fun _ => ?_))
   | exact ih0 _ _ _
   | exact maptext_May.mono _ _ _ _ _
   | exact maptext_Parse.mono _ _
   | exact salvorlaw17_MapRuns.mono _
   | exact salvorref16_Parse.mono _ _
   | exact salvorref16_SameMap.mono _ _ _ _ _ _ _ _ _
   | exact LeO.none _
   | refine LeO.ite ?_ ?_
   | refine LeO.bind ?_ (fun _ => ?_)
theorem salvorlaw17_MapLines.mono : ∀ a0 k, LeO (salvorlaw17_MapLines.f k a0) (salvorlaw17_MapLines.f (k + 1) a0) := by
 intro a0 k
 have ih0 := salvorlaw17_MapLines.mono_l k
 unfold salvorlaw17_MapLines.f
 repeat' first
   | (with_reducible exact ih0 _ _ _)
   | (with_reducible exact maptext_May.mono _ _ _ _ _)
   | (with_reducible exact maptext_Parse.mono _ _)
   | (with_reducible exact salvorlaw17_MapRuns.mono _)
   | (with_reducible exact salvorref16_Parse.mono _ _)
   | (with_reducible exact salvorref16_SameMap.mono _ _ _ _ _ _ _ _ _)
   | (with_reducible exact LeO.refl _)
   | (with_reducible exact LeO.none _)
   | (with_reducible refine LeO.ite ?_ ?_)
   | (with_reducible refine LeO.bind ?_ (fun _ => ?_))
   | exact ih0 _ _ _
   | exact maptext_May.mono _ _ _ _ _
   | exact maptext_Parse.mono _ _
   | exact salvorlaw17_MapRuns.mono _
   | exact salvorref16_Parse.mono _ _
   | exact salvorref16_SameMap.mono _ _ _ _ _ _ _ _ _
   | exact LeO.none _
   | refine LeO.ite ?_ ?_
   | refine LeO.bind ?_ (fun _ => ?_)
set_option maxHeartbeats 8000000 in
set_option maxRecDepth 100000 in
theorem salvorlaw17_MapLines.calls (k : Nat) (A0 : Option Addr) (c0 : Nat) (l0 : List ByteArray) (r : Bool) (w : World) (hr0 : Kd.C Kd.string w A0 l0.length l0) (hc0 : l0.length ≤ c0) (h : salvorlaw17_MapLines.f k l0 = some r) (htab : TabAt w) (hrt : r = true) :
  Calls Tryz.prog 6 #[.slice A0 l0.length c0] w fun e w' => e = .returned (.bool r) ∧ Below w.heap.size w w' := by
 have HT := Aside0.mk hrt
 clear hrt
 have HTAB := Aside0.mk htab
 clear htab
 have hu26 := Tryz.underlying26
 have HR0 := Aside0.mk hr0
 have HC0 := Aside0.mk hc0
 clear hr0 hc0
 have HB := Aside0.mk (Below.refl w.heap.size w)
 have H : (if (l0.length : Int) > 40 then ((salvorlaw17_MapRuns.f k).bind fun t308 => (some t308)) else (salvorlaw17_MapLines.l0 k l0 (⟨#[]⟩ : ByteArray) 0)) = some r := h
 clear h
 by_cases c2 : (l0.length : Int) > 40
 ·rw [if_pos c2] at H
  have c2b0 : decide (40 < (l0.length : Int)) = true := decide_eq_true c2
  have c2b1 : decide (40 < l0.length) = true := decide_eq_true (by omega)
  clear c2
  replace H := Option.bind_eq_some_iff.mp H
  obtain ⟨t308, A30, H⟩ := H
  replace H : (some t308) = some r := H
  have A3 := Aside0.mk A30
  clear A30
  obtain rfl := Option.some.inj H
  go_enter Tryz.func6, Tryz.ntmps6
  go_wp2_with (first | ((with_reducible refine gate_callee (f := 3) rfl ?_); refine gl_ (some 12) rfl rfl Tryz.func3 (by kernel_rfl) rfl #[] rfl ?_; (with_reducible refine (salvorlaw17_MapRuns.calls k  t308 _ A3.out ?tb0_).mono ?_); (case tb0_ => exact tb_ HTAB HB); rintro e w4 ⟨rfl, hb⟩; refine ⟨_, rfl, ?_⟩; replace HB := bs_ HB hb; (try clear hb)))
  go_ret
  exact ⟨by first | rfl | (simp [errW_none, errW_some] <;> rfl) | (simp [*, errW_none, errW_some] <;> rfl), bh_ HB⟩
 ·rw [if_neg c2] at H
  have c2b0 : decide (40 < (l0.length : Int)) = false := decide_eq_false c2
  have c2b1 : decide (40 < l0.length) = false := decide_eq_false (by omega)
  clear c2
  have H' := Aside0.mk H
  clear H
  go_enter Tryz.func6, Tryz.ntmps6
  go_wp2
  go_loopg [3, 4] k (fun kq v3 v4 w' => ∃ (x3_1 : ByteArray) (x4_1 : Int), v3 = .string x3_1 ∧ v4 = .int .i64 x4_1 ∧ Aside0 (salvorlaw17_MapLines.l0 kq l0 x3_1 x4_1 = some r) ∧ Aside0 (kq ≤ k) ∧ Aside0 (Below w.heap.size w w'))
  case atStart => exact ⟨((⟨#[]⟩ : ByteArray)), (0), (by first | rfl | (simp; done) | (simp [*]; done)), (by first | rfl | (simp; done) | (simp [*]; done)), H', ⟨Nat.le_refl _⟩, ⟨bh_ HB⟩⟩
  case round =>
   clear H'
   try clear c2
   try clear c2b0
   try clear c2b1
   try clear p2
   try clear c3
   obtain ⟨x3_1, x4_1, rfl, rfl, HA, HK1, HB⟩ := hrel
   cases gk with
   | zero => exact absurd HA.out (by simp [salvorlaw17_MapLines.l0])
   | succ k1 =>
    have H := HA.out
    clear HA
    simp only [salvorlaw17_MapLines.l0] at H
    by_cases c5 : x4_1 < (l0.length : Int)
    ·rw [if_pos c5] at H
     have c5b0 : decide (x4_1 < (l0.length : Int)) = true := decide_eq_true c5
     clear c5
     by_cases c6 : 0 ≤ x4_1
     ·rw [if_pos c6] at H
      have c6b0 : decide (0 ≤ x4_1) = true := decide_eq_true c6
      clear c6
      by_cases c7 : ((rdOf ByteArray.empty l0 x4_1).size : Int) > 60
      ·rw [if_pos c7] at H
       have c7b0 : decide (60 < ((rdOf ByteArray.empty l0 x4_1).size : Int)) = true := decide_eq_true c7
       have c7b1 : decide (60 < (rdOf ByteArray.empty l0 x4_1).size) = true := decide_eq_true (by omega)
       clear c7
       replace H := Option.bind_eq_some_iff.mp H
       obtain ⟨t310, A80, H⟩ := H
       replace H : (some t310) = some r := H
       have A8 := Aside0.mk A80
       clear A80
       obtain rfl := Option.some.inj H
       have p309 : 0 ≤ (x4_1 : Int) := of_decide_eq_true (by first | (with_reducible assumption) | assumption)
       have q309 : x4_1 < (l0.length : Int) := of_decide_eq_true (by first | (with_reducible assumption) | assumption)
       obtain ⟨ad309, e309, hx309_0⟩ := Kd.at_string HR0.out x4_1 p309 q309
       cases e309
       replace hx309_0 := (HB.out.cell (World.block_lt_of_cell? w _ hx309_0)).trans hx309_0
       replace p309 := eq_true p309
       replace q309 := eq_true q309
       go_wp2_with (first | ((with_reducible refine gate_callee (f := 3) rfl ?_); refine gl_ (some 25) rfl rfl Tryz.func3 (by kernel_rfl) rfl #[] rfl ?_; (with_reducible refine (salvorlaw17_MapRuns.calls k1  t310 _ A8.out ?tb2_).mono ?_); (case tb2_ => exact tb_ HTAB HB); rintro e w9 ⟨rfl, hb⟩; refine ⟨_, rfl, ?_⟩; replace HB := bs_ HB hb; (try clear hb)))
       go_ret
       exact ⟨by first | rfl | (simp [errW_none, errW_some] <;> rfl) | (simp [*, errW_none, errW_some] <;> rfl), bh_ HB⟩
      ·rw [if_neg c7] at H
       have c7b0 : decide (60 < ((rdOf ByteArray.empty l0 x4_1).size : Int)) = false := decide_eq_false c7
       have c7b1 : decide (60 < (rdOf ByteArray.empty l0 x4_1).size) = false := decide_eq_false (by omega)
       clear c7
       by_cases c10 : x3_1.size + (rdOf ByteArray.empty l0 x4_1).size ≤ 9223372036854775807
       ·rw [if_pos c10] at H
        have c10b0 := eq_true c10
        have c10b1 : decide (x3_1.size + (rdOf ByteArray.empty l0 x4_1).size ≤ 9223372036854775807) = true := decide_eq_true c10
        try have c10b2 : (9223372036854775807 < x3_1.size + (rdOf ByteArray.empty l0 x4_1).size) = False := eq_false (Nat.not_lt.2 c10)
        by_cases c11 : (x3_1 ++ (rdOf ByteArray.empty l0 x4_1)).size + 1 ≤ 9223372036854775807
        ·rw [if_pos c11] at H
         have c11b0 := eq_true c11
         have c11b1 : decide ((x3_1 ++ (rdOf ByteArray.empty l0 x4_1)).size + 1 ≤ 9223372036854775807) = true := decide_eq_true c11
         try have c11b2 : (9223372036854775807 < (x3_1 ++ (rdOf ByteArray.empty l0 x4_1)).size + 1) = False := eq_false (Nat.not_lt.2 c11)
         try have c11b3 : (9223372036854775807 < x3_1.size + (rdOf ByteArray.empty l0 x4_1).size + 1) = False := eq_false (Nat.not_lt.2 (by have h_ := c11; simp only [ByteArray.size_append] at h_; exact h_))
         have H' := Aside0.mk H
         clear H
         have p309 : 0 ≤ (x4_1 : Int) := of_decide_eq_true (by first | (with_reducible assumption) | assumption)
         have q309 : x4_1 < (l0.length : Int) := of_decide_eq_true (by first | (with_reducible assumption) | assumption)
         obtain ⟨ad309, e309, hx309_0⟩ := Kd.at_string HR0.out x4_1 p309 q309
         cases e309
         replace hx309_0 := (HB.out.cell (World.block_lt_of_cell? w _ hx309_0)).trans hx309_0
         replace p309 := eq_true p309
         replace q309 := eq_true q309
         have p311 : 0 ≤ (x4_1 : Int) := of_decide_eq_true (by first | (with_reducible assumption) | assumption)
         have q311 : x4_1 < (l0.length : Int) := of_decide_eq_true (by first | (with_reducible assumption) | assumption)
         obtain ⟨ad311, e311, hx311_0⟩ := Kd.at_string HR0.out x4_1 p311 q311
         obtain rfl : ad309 = ad311 := (by injection e311)
         replace hx311_0 := (HB.out.cell (World.block_lt_of_cell? w _ hx311_0)).trans hx311_0
         replace p311 := eq_true p311
         replace q311 := eq_true q311
         go_wp2
         go_roundg k1
         case measure => have := HK1.out; omega
         case rel => exact ⟨((x3_1 ++ (rdOf ByteArray.empty l0 x4_1)) ++ (⟨#[10]⟩ : ByteArray)), (wrap64 (x4_1 + 1)), (by first | rfl | (simp; done) | (simp [*]; done)), (by first | rfl | (simp; done) | (simp [*]; done)), H', ⟨by have := HK1.out; omega⟩, ⟨bh_ HB⟩⟩
        ·rw [if_neg c11] at H
         exact absurd H (by simp)
       ·rw [if_neg c10] at H
        exact absurd H (by simp)
     ·rw [if_neg c6] at H
      exact absurd H (by simp)
    ·rw [if_neg c5] at H
     have c5b0 : decide (x4_1 < (l0.length : Int)) = false := decide_eq_false c5
     clear c5
     replace H := Option.bind_eq_some_iff.mp H
     obtain ⟨⟨t312, t313, t314, t315, t318⟩, A120, H⟩ := H
     replace H : ((salvorref16_Parse.f k1 x3_1).bind fun bt320 => ((salvorref16_SameMap.f k1 t312 t313 t314 t315 bt320.1 bt320.2.1 bt320.2.2.1 bt320.2.2.2.1).bind fun t328 => (if t328 = true then (if t318 = bt320.2.2.2.2 then (if t318 = 0 then ((maptext_May.f k1 t312 t313 t314 t315).bind fun t329 => (if t329 = true then ((salvorlaw17_MapRuns.f k1).bind fun t330 => (some t330)) else (some false))) else ((salvorlaw17_MapRuns.f k1).bind fun t331 => (some t331))) else (some false)) else (some false)))) = some r := H
     have A12 := Aside0.mk A120
     clear A120
     replace H := Option.bind_eq_some_iff.mp H
     obtain ⟨⟨t320, t321, t322, t323, t326⟩, A130, H⟩ := H
     replace H : ((salvorref16_SameMap.f k1 t312 t313 t314 t315 t320 t321 t322 t323).bind fun t328 => (if t328 = true then (if t318 = t326 then (if t318 = 0 then ((maptext_May.f k1 t312 t313 t314 t315).bind fun t329 => (if t329 = true then ((salvorlaw17_MapRuns.f k1).bind fun t330 => (some t330)) else (some false))) else ((salvorlaw17_MapRuns.f k1).bind fun t331 => (some t331))) else (some false)) else (some false))) = some r := H
     have A13 := Aside0.mk A130
     clear A130
     replace H := Option.bind_eq_some_iff.mp H
     obtain ⟨t328, A140, H⟩ := H
     replace H : (if t328 = true then (if t318 = t326 then (if t318 = 0 then ((maptext_May.f k1 t312 t313 t314 t315).bind fun t329 => (if t329 = true then ((salvorlaw17_MapRuns.f k1).bind fun t330 => (some t330)) else (some false))) else ((salvorlaw17_MapRuns.f k1).bind fun t331 => (some t331))) else (some false)) else (some false)) = some r := H
     have A14 := Aside0.mk A140
     clear A140
     by_cases c15 : t328 = true
     ·subst c15
      have H1 : (if t318 = t326 then (if t318 = 0 then ((maptext_May.f k1 t312 t313 t314 t315).bind fun t329 => (if t329 = true then ((salvorlaw17_MapRuns.f k1).bind fun t330 => (some t330)) else (some false))) else ((salvorlaw17_MapRuns.f k1).bind fun t331 => (some t331))) else (some false)) = some r := by rw [if_pos rfl] at H; exact H
      clear H
      have H := H1
      clear H1
      by_cases c16 : t318 = t326
      ·rw [if_pos c16] at H
       have c16b0 : (t318 == t326) = true := beq_iff_eq.mpr c16
       have c16b1 : (t318 != t326) = false := bne_eq_false_iff_eq.mpr c16
       clear c16
       by_cases c17 : t318 = 0
       ·rw [if_pos c17] at H
        have c17b0 : (t318 == 0) = true := beq_iff_eq.mpr c17
        have c17b1 : (t318 != 0) = false := bne_eq_false_iff_eq.mpr c17
        clear c17
        replace H := Option.bind_eq_some_iff.mp H
        obtain ⟨t329, A180, H⟩ := H
        replace H : (if t329 = true then ((salvorlaw17_MapRuns.f k1).bind fun t330 => (some t330)) else (some false)) = some r := H
        have A18 := Aside0.mk A180
        clear A180
        by_cases c19 : t329 = true
        ·subst c19
         have H1 : ((salvorlaw17_MapRuns.f k1).bind fun t330 => (some t330)) = some r := by rw [if_pos rfl] at H; exact H
         clear H
         have H := H1
         clear H1
         replace H := Option.bind_eq_some_iff.mp H
         obtain ⟨t330, A200, H⟩ := H
         replace H : (some t330) = some r := H
         have A20 := Aside0.mk A200
         clear A200
         obtain rfl := Option.some.inj H
         go_wp2_with (first | ((with_reducible refine gate_callee (f := 11) rfl ?_); refine gl_ (some 35) rfl rfl Tryz.func11 (by kernel_rfl) rfl #[.string x3_1] rfl ?_; (with_reducible refine (maptext_Parse.calls k1 x3_1 t312 t313 t314 t315 t318 _ A12.out ?tb4_).mono ?_); (case tb4_ => exact tb_ HTAB HB); rintro e w21 ⟨v316, rfl, ho0, hb⟩; refine ⟨_, rfl, ?_⟩; have HO317 := Aside0.mk (Kd.R_lower ho0 (below_size (bh_ HB))); replace HB := bs_ HB hb; (try clear hb); (try clear hb2); (try clear hk); (try clear hi); (try clear ho0)) | ((with_reducible refine gate_dst (N := 5) rfl ?_); refine box_e 5 #[.int .i64 0, .int .i64 0, .int .u8 0, .slice none 0 0] 26 ?_; intro gb319 hg w22 hbox hb; have n0_ := Aside0.mk (Kd.R_below (by (with_reducible repeat (first | apply Kd.R_alloc | apply Kd.R_drewN | apply Kd.R_drew)); exact HO317.out) hb); have n1_ := bs_ HB hb; have n2_ := Aside0.mk hbox; have n3_ := bg_ HB hg; have n4_ := bg_ HB hg; clear HO317; clear HB; have HO317 := n0_; have HB := n1_; have BK319 := n2_; have GW319 := n3_; have GE319 := n4_; clear n0_ n1_ n2_ n3_ n4_; clear hb hbox hg; obtain ⟨hcz23_0, hcz23_1, hcz23_2, hcz23_3, hfz23_0, hfz23_1, hfz23_2, hfz23_3⟩ := c4_ BK319; obtain ⟨Ao24, co24, eo24⟩ := Kd.R_slice HO317.out; subst eo24) | ((with_reducible refine gate_callee (f := 17) rfl ?_); refine gl_ (some 40) rfl rfl Tryz.func17 (by kernel_rfl) rfl #[.string x3_1] rfl ?_; (with_reducible refine (salvorref16_Parse.calls k1 x3_1 t320 t321 t322 t323 t326 _ A13.out).mono ?_); rintro e w25 ⟨v324, rfl, ho0, hb⟩; refine ⟨_, rfl, ?_⟩; have n0_ := Aside0.mk (Kd.R_elder' (by (with_reducible repeat (first | apply Kd.R_alloc | apply Kd.R_drewN | apply Kd.R_drew)); exact (Kd.R_mono (Kd.R_far (p := ⟨gb319, 3, none⟩) (Kd.R_far (p := ⟨gb319, 2, none⟩) (Kd.R_far (p := ⟨gb319, 1, none⟩) (Kd.R_far (p := ⟨gb319, 0, none⟩) (Kd.R_types HO317.out BK319.out (by decide)) (fun _ hk => hk.2) (.int .i64 t312)) (fun _ hk => hk.2) (.int .i64 t313)) (fun _ hk => hk.2) (.int .u8 t314)) (fun _ hk => hk.2) (.slice Ao24 t315.length co24)) (fun _ h_ => h_.1))) (Kd.R_base ho0) hb); have n1_ := Aside0.mk (Kd.R_lower (Kd.R_new' ho0 (Kd.R_lt (by (with_reducible repeat (first | apply Kd.R_alloc | apply Kd.R_drewN | apply Kd.R_drew)); exact (Kd.R_mono (Kd.R_far (p := ⟨gb319, 3, none⟩) (Kd.R_far (p := ⟨gb319, 2, none⟩) (Kd.R_far (p := ⟨gb319, 1, none⟩) (Kd.R_far (p := ⟨gb319, 0, none⟩) (Kd.R_types HO317.out BK319.out (by decide)) (fun _ hk => hk.2) (.int .i64 t312)) (fun _ hk => hk.2) (.int .i64 t313)) (fun _ hk => hk.2) (.int .u8 t314)) (fun _ hk => hk.2) (.slice Ao24 t315.length co24)) (fun _ h_ => h_.1))))) (below_size (bh_ HB))); have n2_ := Aside0.mk (blk_below (g := gb319) (o := .cells #[.int .i64 t312, .int .i64 t313, .int .u8 t314, .slice Ao24 t315.length co24] 26 (0, 0)) (bp_ BK319) hb); have n3_ := bs_ HB hb; clear HO317; clear BK319; clear HB; have HO317 := n0_; have HO325 := n1_; have BK319 := n2_; have HB := n3_; clear n0_ n1_ n2_ n3_; (try clear hb); (try clear hb2); (try clear hk); (try clear hi); (try clear ho0)) | ((with_reducible refine gate_dst (N := 7) rfl ?_); refine box_e 7 #[.int .i64 0, .int .i64 0, .int .u8 0, .slice none 0 0] 26 ?_; intro gb327 hg w26 hbox hb; have n0_ := Aside0.mk (Kd.R_below (by (with_reducible repeat (first | apply Kd.R_alloc | apply Kd.R_drewN | apply Kd.R_drew)); exact HO317.out) hb); have n1_ := Aside0.mk (Kd.R_below (by (with_reducible repeat (first | apply Kd.R_alloc | apply Kd.R_drewN | apply Kd.R_drew)); exact HO325.out) hb); have n2_ := bb_ BK319 hb; have n3_ := bs_ HB hb; have n4_ := Aside0.mk hbox; have n5_ := bg_ HB hg; have n6_ := bg_ HB hg; have n7_ := bn_ BK319 hg; have n8_ := bm_ BK319 hg; clear HO317; clear HO325; clear BK319; clear HB; have HO317 := n0_; have HO325 := n1_; have BK319 := n2_; have HB := n3_; have BK327 := n4_; have GW327 := n5_; have GE327 := n6_; have NB319_327 := n7_; have NB327_319 := n8_; clear n0_ n1_ n2_ n3_ n4_ n5_ n6_ n7_ n8_; clear hb hbox hg; have hnb27 := NB327_319.out; have hnc27 := NB319_327.out; obtain ⟨hcz28_0, hcz28_1, hcz28_2, hcz28_3, hfz28_0, hfz28_1, hfz28_2, hfz28_3⟩ := c4_ BK327; obtain ⟨Ao29, co29, eo29⟩ := Kd.R_slice HO325.out; subst eo29; obtain ⟨hcz30_0, hcz30_1, hcz30_2, hcz30_3, hfz30_0, hfz30_1, hfz30_2, hfz30_3⟩ := c4_ BK319) | ((with_reducible refine gate_callee (f := 12) rfl ?_); refine gl_ (some 45) rfl rfl Tryz.func12 (by kernel_rfl) rfl #[.agg #[.int .i64 t312, .int .i64 t313, .int .u8 t314, .slice Ao24 t315.length co24], .agg #[.int .i64 t320, .int .i64 t321, .int .u8 t322, .slice Ao29 t323.length co29]] rfl ?_; (with_reducible refine (salvorref16_SameMap.calls k1 t312 t313 t314 _ _ t315 t320 t321 t322 _ _ t323 true _ ?side1 ?side2 ?side3 ?side4 A14.out).mono ?_); (case side1 => refine (Kd.R_reads' (e := 23) (base := w.heap.size) (ok := fun k_ => (True ∧ some k_ ≠ (.slice Ao29 t323.length co29 : Value).ownBlock)) (n := t315.length) (c := co24) ?_).2.2; exact (by (with_reducible repeat (first | apply Kd.R_alloc | apply Kd.R_drewN | apply Kd.R_drew)); exact (Kd.R_mono (Kd.R_far (p := ⟨gb327, 3, none⟩) (Kd.R_far (p := ⟨gb327, 2, none⟩) (Kd.R_far (p := ⟨gb327, 1, none⟩) (Kd.R_far (p := ⟨gb327, 0, none⟩) (Kd.R_types HO317.out BK327.out (by decide)) (fun _ hk => hk.2) (.int .i64 t320)) (fun _ hk => hk.2) (.int .i64 t321)) (fun _ hk => hk.2) (.int .u8 t322)) (fun _ hk => hk.2) (.slice Ao29 t323.length co29)) (fun _ h_ => h_.1)))); (case side2 => exact (Kd.R_reads' HO317.out).2.1); (case side3 => refine (Kd.R_reads' (e := 23) (base := w.heap.size) (ok := fun k_ => (True ∧ some k_ ≠ (.slice Ao24 t315.length co24 : Value).ownBlock)) (n := t323.length) (c := co29) ?_).2.2; exact (by (with_reducible repeat (first | apply Kd.R_alloc | apply Kd.R_drewN | apply Kd.R_drew)); exact (Kd.R_mono (Kd.R_far (p := ⟨gb327, 3, none⟩) (Kd.R_far (p := ⟨gb327, 2, none⟩) (Kd.R_far (p := ⟨gb327, 1, none⟩) (Kd.R_far (p := ⟨gb327, 0, none⟩) (Kd.R_types HO325.out BK327.out (by decide)) (fun _ hk => hk.2) (.int .i64 t320)) (fun _ hk => hk.2) (.int .i64 t321)) (fun _ hk => hk.2) (.int .u8 t322)) (fun _ hk => hk.2) (.slice Ao29 t323.length co29)) (fun _ h_ => h_.1)))); (case side4 => exact (Kd.R_reads' HO325.out).2.1); rintro e w31 ⟨rfl, hb⟩; refine ⟨_, rfl, ?_⟩; have n0_ := Aside0.mk (Kd.R_below (by (with_reducible repeat (first | apply Kd.R_alloc | apply Kd.R_drewN | apply Kd.R_drew)); exact (Kd.R_mono (Kd.R_far (p := ⟨gb327, 3, none⟩) (Kd.R_far (p := ⟨gb327, 2, none⟩) (Kd.R_far (p := ⟨gb327, 1, none⟩) (Kd.R_far (p := ⟨gb327, 0, none⟩) (Kd.R_types HO317.out BK327.out (by decide)) (fun _ hk => hk.2) (.int .i64 t320)) (fun _ hk => hk.2) (.int .i64 t321)) (fun _ hk => hk.2) (.int .u8 t322)) (fun _ hk => hk.2) (.slice Ao29 t323.length co29)) (fun _ h_ => h_.1))) hb); have n1_ := Aside0.mk (Kd.R_below (by (with_reducible repeat (first | apply Kd.R_alloc | apply Kd.R_drewN | apply Kd.R_drew)); exact (Kd.R_mono (Kd.R_far (p := ⟨gb327, 3, none⟩) (Kd.R_far (p := ⟨gb327, 2, none⟩) (Kd.R_far (p := ⟨gb327, 1, none⟩) (Kd.R_far (p := ⟨gb327, 0, none⟩) (Kd.R_types HO325.out BK327.out (by decide)) (fun _ hk => hk.2) (.int .i64 t320)) (fun _ hk => hk.2) (.int .i64 t321)) (fun _ hk => hk.2) (.int .u8 t322)) (fun _ hk => hk.2) (.slice Ao29 t323.length co29)) (fun _ h_ => h_.1))) hb); have n2_ := Aside0.mk (blk_below (g := gb319) (o := .cells #[.int .i64 t312, .int .i64 t313, .int .u8 t314, .slice Ao24 t315.length co24] 26 (0, 0)) (bp_ BK319) hb); have n3_ := Aside0.mk (blk_below (g := gb327) (o := .cells #[.int .i64 t320, .int .i64 t321, .int .u8 t322, .slice Ao29 t323.length co29] 26 (0, 0)) (bp_ BK327) hb); have n4_ := bs_ HB hb; clear HO317; clear HO325; clear BK319; clear BK327; clear HB; have HO317 := n0_; have HO325 := n1_; have BK319 := n2_; have BK327 := n3_; have HB := n4_; clear n0_ n1_ n2_ n3_ n4_; (try clear hb); obtain ⟨hcz32_0, hcz32_1, hcz32_2, hcz32_3, hfz32_0, hfz32_1, hfz32_2, hfz32_3⟩ := c4_ BK319) | (go_at_call 13; (with_reducible refine (maptext_May.calls k1 t312 t313 t314 _ _ t315 true _ ?side1 ?side2 A18.out).mono ?_); (case side1 => repeat (first | exact (Kd.R_reads' HO317.out).2.2 | (with_reducible refine Kd.C_alloc ?_ _) | (with_reducible refine Kd.C_drewN ?_ _) | (with_reducible refine Kd.C_drew ?_))); (case side2 => exact (Kd.R_reads' HO317.out).2.1); rintro e w33 ⟨rfl, hb⟩; have n0_ := Aside0.mk (Kd.R_below (by (with_reducible repeat (first | apply Kd.R_alloc | apply Kd.R_drewN | apply Kd.R_drew)); exact HO317.out) hb); have n1_ := Aside0.mk (Kd.R_below (by (with_reducible repeat (first | apply Kd.R_alloc | apply Kd.R_drewN | apply Kd.R_drew)); exact HO325.out) hb); have n2_ := bb_ BK319 hb; have n3_ := bb_ BK327 hb; have n4_ := bs_ HB hb; clear HO317; clear HO325; clear BK319; clear BK327; clear HB; have HO317 := n0_; have HO325 := n1_; have BK319 := n2_; have BK327 := n3_; have HB := n4_; clear n0_ n1_ n2_ n3_ n4_; (try clear hb)) | (go_at_call 3; (with_reducible refine (salvorlaw17_MapRuns.calls k1  t330 _ A20.out ?tb6_).mono ?_); (case tb6_ => exact tb_ HTAB HB); rintro e w34 ⟨rfl, hb⟩; have n0_ := Aside0.mk (Kd.R_below (by (with_reducible repeat (first | apply Kd.R_alloc | apply Kd.R_drewN | apply Kd.R_drew)); exact HO317.out) hb); have n1_ := Aside0.mk (Kd.R_below (by (with_reducible repeat (first | apply Kd.R_alloc | apply Kd.R_drewN | apply Kd.R_drew)); exact HO325.out) hb); have n2_ := bb_ BK319 hb; have n3_ := bb_ BK327 hb; have n4_ := bs_ HB hb; clear HO317; clear HO325; clear BK319; clear BK327; clear HB; have HO317 := n0_; have HO325 := n1_; have BK319 := n2_; have BK327 := n3_; have HB := n4_; clear n0_ n1_ n2_ n3_ n4_; (try clear hb)))
         go_ret
         exact ⟨by first | rfl | (simp [errW_none, errW_some] <;> rfl) | (simp [*, errW_none, errW_some] <;> rfl), bh_ HB⟩
        ·replace c19 := Bool.eq_false_iff.mpr c19
         subst c19
         have H1 : (some false) = some r := by rw [if_neg (show ¬ (false = true) by decide)] at H; exact H
         clear H
         have H := H1
         clear H1
         exact absurd ((Option.some.inj H).trans HT.out) (by simp)
       ·rw [if_neg c17] at H
        have c17b0 : (t318 == 0) = false := beq_eq_false_iff_ne.mpr c17
        have c17b1 : (t318 != 0) = true := bne_iff_ne.mpr c17
        replace H := Option.bind_eq_some_iff.mp H
        obtain ⟨t331, A350, H⟩ := H
        replace H : (some t331) = some r := H
        have A35 := Aside0.mk A350
        clear A350
        obtain rfl := Option.some.inj H
        go_wp2_with (first | ((with_reducible refine gate_callee (f := 11) rfl ?_); refine gl_ (some 35) rfl rfl Tryz.func11 (by kernel_rfl) rfl #[.string x3_1] rfl ?_; (with_reducible refine (maptext_Parse.calls k1 x3_1 t312 t313 t314 t315 t318 _ A12.out ?tb8_).mono ?_); (case tb8_ => exact tb_ HTAB HB); rintro e w36 ⟨v316, rfl, ho0, hb⟩; refine ⟨_, rfl, ?_⟩; have HO317 := Aside0.mk (Kd.R_lower ho0 (below_size (bh_ HB))); replace HB := bs_ HB hb; (try clear hb); (try clear hb2); (try clear hk); (try clear hi); (try clear ho0)) | ((with_reducible refine gate_dst (N := 5) rfl ?_); refine box_e 5 #[.int .i64 0, .int .i64 0, .int .u8 0, .slice none 0 0] 26 ?_; intro gb319 hg w37 hbox hb; have n0_ := Aside0.mk (Kd.R_below (by (with_reducible repeat (first | apply Kd.R_alloc | apply Kd.R_drewN | apply Kd.R_drew)); exact HO317.out) hb); have n1_ := bs_ HB hb; have n2_ := Aside0.mk hbox; have n3_ := bg_ HB hg; have n4_ := bg_ HB hg; clear HO317; clear HB; have HO317 := n0_; have HB := n1_; have BK319 := n2_; have GW319 := n3_; have GE319 := n4_; clear n0_ n1_ n2_ n3_ n4_; clear hb hbox hg; obtain ⟨hcz38_0, hcz38_1, hcz38_2, hcz38_3, hfz38_0, hfz38_1, hfz38_2, hfz38_3⟩ := c4_ BK319; obtain ⟨Ao39, co39, eo39⟩ := Kd.R_slice HO317.out; subst eo39) | ((with_reducible refine gate_callee (f := 17) rfl ?_); refine gl_ (some 40) rfl rfl Tryz.func17 (by kernel_rfl) rfl #[.string x3_1] rfl ?_; (with_reducible refine (salvorref16_Parse.calls k1 x3_1 t320 t321 t322 t323 t326 _ A13.out).mono ?_); rintro e w40 ⟨v324, rfl, ho0, hb⟩; refine ⟨_, rfl, ?_⟩; have n0_ := Aside0.mk (Kd.R_elder' (by (with_reducible repeat (first | apply Kd.R_alloc | apply Kd.R_drewN | apply Kd.R_drew)); exact (Kd.R_mono (Kd.R_far (p := ⟨gb319, 3, none⟩) (Kd.R_far (p := ⟨gb319, 2, none⟩) (Kd.R_far (p := ⟨gb319, 1, none⟩) (Kd.R_far (p := ⟨gb319, 0, none⟩) (Kd.R_types HO317.out BK319.out (by decide)) (fun _ hk => hk.2) (.int .i64 t312)) (fun _ hk => hk.2) (.int .i64 t313)) (fun _ hk => hk.2) (.int .u8 t314)) (fun _ hk => hk.2) (.slice Ao39 t315.length co39)) (fun _ h_ => h_.1))) (Kd.R_base ho0) hb); have n1_ := Aside0.mk (Kd.R_lower (Kd.R_new' ho0 (Kd.R_lt (by (with_reducible repeat (first | apply Kd.R_alloc | apply Kd.R_drewN | apply Kd.R_drew)); exact (Kd.R_mono (Kd.R_far (p := ⟨gb319, 3, none⟩) (Kd.R_far (p := ⟨gb319, 2, none⟩) (Kd.R_far (p := ⟨gb319, 1, none⟩) (Kd.R_far (p := ⟨gb319, 0, none⟩) (Kd.R_types HO317.out BK319.out (by decide)) (fun _ hk => hk.2) (.int .i64 t312)) (fun _ hk => hk.2) (.int .i64 t313)) (fun _ hk => hk.2) (.int .u8 t314)) (fun _ hk => hk.2) (.slice Ao39 t315.length co39)) (fun _ h_ => h_.1))))) (below_size (bh_ HB))); have n2_ := Aside0.mk (blk_below (g := gb319) (o := .cells #[.int .i64 t312, .int .i64 t313, .int .u8 t314, .slice Ao39 t315.length co39] 26 (0, 0)) (bp_ BK319) hb); have n3_ := bs_ HB hb; clear HO317; clear BK319; clear HB; have HO317 := n0_; have HO325 := n1_; have BK319 := n2_; have HB := n3_; clear n0_ n1_ n2_ n3_; (try clear hb); (try clear hb2); (try clear hk); (try clear hi); (try clear ho0)) | ((with_reducible refine gate_dst (N := 7) rfl ?_); refine box_e 7 #[.int .i64 0, .int .i64 0, .int .u8 0, .slice none 0 0] 26 ?_; intro gb327 hg w41 hbox hb; have n0_ := Aside0.mk (Kd.R_below (by (with_reducible repeat (first | apply Kd.R_alloc | apply Kd.R_drewN | apply Kd.R_drew)); exact HO317.out) hb); have n1_ := Aside0.mk (Kd.R_below (by (with_reducible repeat (first | apply Kd.R_alloc | apply Kd.R_drewN | apply Kd.R_drew)); exact HO325.out) hb); have n2_ := bb_ BK319 hb; have n3_ := bs_ HB hb; have n4_ := Aside0.mk hbox; have n5_ := bg_ HB hg; have n6_ := bg_ HB hg; have n7_ := bn_ BK319 hg; have n8_ := bm_ BK319 hg; clear HO317; clear HO325; clear BK319; clear HB; have HO317 := n0_; have HO325 := n1_; have BK319 := n2_; have HB := n3_; have BK327 := n4_; have GW327 := n5_; have GE327 := n6_; have NB319_327 := n7_; have NB327_319 := n8_; clear n0_ n1_ n2_ n3_ n4_ n5_ n6_ n7_ n8_; clear hb hbox hg; have hnb42 := NB327_319.out; have hnc42 := NB319_327.out; obtain ⟨hcz43_0, hcz43_1, hcz43_2, hcz43_3, hfz43_0, hfz43_1, hfz43_2, hfz43_3⟩ := c4_ BK327; obtain ⟨Ao44, co44, eo44⟩ := Kd.R_slice HO325.out; subst eo44; obtain ⟨hcz45_0, hcz45_1, hcz45_2, hcz45_3, hfz45_0, hfz45_1, hfz45_2, hfz45_3⟩ := c4_ BK319) | ((with_reducible refine gate_callee (f := 12) rfl ?_); refine gl_ (some 45) rfl rfl Tryz.func12 (by kernel_rfl) rfl #[.agg #[.int .i64 t312, .int .i64 t313, .int .u8 t314, .slice Ao39 t315.length co39], .agg #[.int .i64 t320, .int .i64 t321, .int .u8 t322, .slice Ao44 t323.length co44]] rfl ?_; (with_reducible refine (salvorref16_SameMap.calls k1 t312 t313 t314 _ _ t315 t320 t321 t322 _ _ t323 true _ ?side1 ?side2 ?side3 ?side4 A14.out).mono ?_); (case side1 => refine (Kd.R_reads' (e := 23) (base := w.heap.size) (ok := fun k_ => (True ∧ some k_ ≠ (.slice Ao44 t323.length co44 : Value).ownBlock)) (n := t315.length) (c := co39) ?_).2.2; exact (by (with_reducible repeat (first | apply Kd.R_alloc | apply Kd.R_drewN | apply Kd.R_drew)); exact (Kd.R_mono (Kd.R_far (p := ⟨gb327, 3, none⟩) (Kd.R_far (p := ⟨gb327, 2, none⟩) (Kd.R_far (p := ⟨gb327, 1, none⟩) (Kd.R_far (p := ⟨gb327, 0, none⟩) (Kd.R_types HO317.out BK327.out (by decide)) (fun _ hk => hk.2) (.int .i64 t320)) (fun _ hk => hk.2) (.int .i64 t321)) (fun _ hk => hk.2) (.int .u8 t322)) (fun _ hk => hk.2) (.slice Ao44 t323.length co44)) (fun _ h_ => h_.1)))); (case side2 => exact (Kd.R_reads' HO317.out).2.1); (case side3 => refine (Kd.R_reads' (e := 23) (base := w.heap.size) (ok := fun k_ => (True ∧ some k_ ≠ (.slice Ao39 t315.length co39 : Value).ownBlock)) (n := t323.length) (c := co44) ?_).2.2; exact (by (with_reducible repeat (first | apply Kd.R_alloc | apply Kd.R_drewN | apply Kd.R_drew)); exact (Kd.R_mono (Kd.R_far (p := ⟨gb327, 3, none⟩) (Kd.R_far (p := ⟨gb327, 2, none⟩) (Kd.R_far (p := ⟨gb327, 1, none⟩) (Kd.R_far (p := ⟨gb327, 0, none⟩) (Kd.R_types HO325.out BK327.out (by decide)) (fun _ hk => hk.2) (.int .i64 t320)) (fun _ hk => hk.2) (.int .i64 t321)) (fun _ hk => hk.2) (.int .u8 t322)) (fun _ hk => hk.2) (.slice Ao44 t323.length co44)) (fun _ h_ => h_.1)))); (case side4 => exact (Kd.R_reads' HO325.out).2.1); rintro e w46 ⟨rfl, hb⟩; refine ⟨_, rfl, ?_⟩; have n0_ := Aside0.mk (Kd.R_below (by (with_reducible repeat (first | apply Kd.R_alloc | apply Kd.R_drewN | apply Kd.R_drew)); exact (Kd.R_mono (Kd.R_far (p := ⟨gb327, 3, none⟩) (Kd.R_far (p := ⟨gb327, 2, none⟩) (Kd.R_far (p := ⟨gb327, 1, none⟩) (Kd.R_far (p := ⟨gb327, 0, none⟩) (Kd.R_types HO317.out BK327.out (by decide)) (fun _ hk => hk.2) (.int .i64 t320)) (fun _ hk => hk.2) (.int .i64 t321)) (fun _ hk => hk.2) (.int .u8 t322)) (fun _ hk => hk.2) (.slice Ao44 t323.length co44)) (fun _ h_ => h_.1))) hb); have n1_ := Aside0.mk (Kd.R_below (by (with_reducible repeat (first | apply Kd.R_alloc | apply Kd.R_drewN | apply Kd.R_drew)); exact (Kd.R_mono (Kd.R_far (p := ⟨gb327, 3, none⟩) (Kd.R_far (p := ⟨gb327, 2, none⟩) (Kd.R_far (p := ⟨gb327, 1, none⟩) (Kd.R_far (p := ⟨gb327, 0, none⟩) (Kd.R_types HO325.out BK327.out (by decide)) (fun _ hk => hk.2) (.int .i64 t320)) (fun _ hk => hk.2) (.int .i64 t321)) (fun _ hk => hk.2) (.int .u8 t322)) (fun _ hk => hk.2) (.slice Ao44 t323.length co44)) (fun _ h_ => h_.1))) hb); have n2_ := Aside0.mk (blk_below (g := gb319) (o := .cells #[.int .i64 t312, .int .i64 t313, .int .u8 t314, .slice Ao39 t315.length co39] 26 (0, 0)) (bp_ BK319) hb); have n3_ := Aside0.mk (blk_below (g := gb327) (o := .cells #[.int .i64 t320, .int .i64 t321, .int .u8 t322, .slice Ao44 t323.length co44] 26 (0, 0)) (bp_ BK327) hb); have n4_ := bs_ HB hb; clear HO317; clear HO325; clear BK319; clear BK327; clear HB; have HO317 := n0_; have HO325 := n1_; have BK319 := n2_; have BK327 := n3_; have HB := n4_; clear n0_ n1_ n2_ n3_ n4_; (try clear hb)) | (go_at_call 3; (with_reducible refine (salvorlaw17_MapRuns.calls k1  t331 _ A35.out ?tb10_).mono ?_); (case tb10_ => exact tb_ HTAB HB); rintro e w47 ⟨rfl, hb⟩; have n0_ := Aside0.mk (Kd.R_below (by (with_reducible repeat (first | apply Kd.R_alloc | apply Kd.R_drewN | apply Kd.R_drew)); exact HO317.out) hb); have n1_ := Aside0.mk (Kd.R_below (by (with_reducible repeat (first | apply Kd.R_alloc | apply Kd.R_drewN | apply Kd.R_drew)); exact HO325.out) hb); have n2_ := bb_ BK319 hb; have n3_ := bb_ BK327 hb; have n4_ := bs_ HB hb; clear HO317; clear HO325; clear BK319; clear BK327; clear HB; have HO317 := n0_; have HO325 := n1_; have BK319 := n2_; have BK327 := n3_; have HB := n4_; clear n0_ n1_ n2_ n3_ n4_; (try clear hb)))
        go_ret
        exact ⟨by first | rfl | (simp [errW_none, errW_some] <;> rfl) | (simp [*, errW_none, errW_some] <;> rfl), bh_ HB⟩
      ·rw [if_neg c16] at H
       have c16b0 : (t318 == t326) = false := beq_eq_false_iff_ne.mpr c16
       have c16b1 : (t318 != t326) = true := bne_iff_ne.mpr c16
       exact absurd ((Option.some.inj H).trans HT.out) (by simp)
     ·replace c15 := Bool.eq_false_iff.mpr c15
      subst c15
      have H1 : (some false) = some r := by rw [if_neg (show ¬ (false = true) by decide)] at H; exact H
      clear H
      have H := H1
      clear H1
      exact absurd ((Option.some.inj H).trans HT.out) (by simp)

end Go.Proofs.YtlcablcpcbmgeaaGreatDoor.P
