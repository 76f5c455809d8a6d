/- Laid by a program of this session's own (wip/wprint.py, over the kit's print.py): functions of the given program as plain Lean functions, and that the program's calls come to their answers. -/
import Derived.Test.YtlcablcpcbmgeaaGreatDoorPx0
import Derived.Test.YtlcablcpcbmgeaaGreatDoorPx12
import Derived.Test.YtlcablcpcbmgeaaGreatDoorPx14
namespace Go.Proofs.YtlcablcpcbmgeaaGreatDoor.P
open Go.RowKit Go.Proofs.YtlcablcpcbmgeaaGreatDoorW.PrintWords Go.Proofs.YtlcablcpcbmgeaaGreatDoorW.PrintLast Go.Proofs.YtlcablcpcbmgeaaGreatDoorW.PrintMore
attribute [local go_sem] max2_int min2_int max_two min_two max_three min_three max_four min_four   -- for this text's walks alone
set_option linter.unusedVariables false
set_option linter.unusedSimpArgs false

/-! ### maptext_lines: function 29 -/
mutual
def maptext_lines.l0 : Nat → List (List ByteArray) → List ByteArray → Int → Int → Option ((List (List ByteArray)) × Bool)
 | 0, _, _, _, _ => none
 | k + 1, x4, x9, x10, x11 => if x11 < x10 then (if 0 ≤ x11 then (if x11 < (x9.length : Int) then ((maptext_split.f (rdOf ByteArray.empty x9 x11)).bind fun t118 => (if (t118.length : Int) = 0 then (maptext_lines.j1 k x4 t118 x9 x10 x11 true) else (if 0 < (t118.length : Int) then (if 0 < ((rdOf ByteArray.empty t118 0).size : Int) then (maptext_lines.j1 k x4 t118 x9 x10 x11 ((bt (rdOf ByteArray.empty t118 0) 0) == 35)) else (none)) else (none)))) else (none)) else (none)) else (some (x4, true))
def maptext_lines.j1 : Nat → List (List ByteArray) → List ByteArray → List ByteArray → Int → Int → Bool → Option ((List (List ByteArray)) × Bool)
 | 0, _, _, _, _, _, _ => none
 | k + 1, x4, x7, x9, x10, x11, x21 => if x21 = true then (maptext_lines.l0 k x4 x9 x10 (wrap64 (x11 + 1))) else (if (x7.length : Int) = 3 then (if x4.length < 5864062014805 then (maptext_lines.l0 k (x4 ++ [x7]) x9 x10 (wrap64 (x11 + 1))) else (none)) else (some (([] : List (List ByteArray)), false)))
end
def maptext_lines.f (k : Nat) (a0 : ByteArray) : Option ((List (List ByteArray)) × Bool) := (strings_Split.f a0 (⟨#[10]⟩ : ByteArray)).bind fun t114 => (maptext_lines.l0 k ([] : List (List ByteArray)) t114 (t114.length : Int) 0)
theorem maptext_lines.mono_l : ∀ k, (∀ y0 y1 y2 y3, LeO (maptext_lines.l0 k y0 y1 y2 y3) (maptext_lines.l0 (k + 1) y0 y1 y2 y3)) ∧ (∀ y0 y1 y2 y3 y4 y5, LeO (maptext_lines.j1 k y0 y1 y2 y3 y4 y5) (maptext_lines.j1 (k + 1) y0 y1 y2 y3 y4 y5))
 | 0 => ⟨fun _ _ _ _ r h => by simp [maptext_lines.l0] at h, fun _ _ _ _ _ _ r h => by simp [maptext_lines.j1] at h⟩
 | k + 1 => by
  obtain ⟨ih0, ih1⟩ := maptext_lines.mono_l k
  refine ⟨?_, ?_⟩
  ·intro y0 y1 y2 y3
   unfold maptext_lines.l0
   repeat' first
   | (with_reducible exact ih0 _ _ _ _)
   | (with_reducible exact ih1 _ _ _ _ _ _)
   | (with_reducible exact LeO.refl _)
   | (with_reducible exact LeO.none _)
   | (with_reducible refine LeO.ite ?_ ?_)
   | (with_reducible refine LeO.bind ?_ (fun _ => ?_))
   | exact ih0 _ _ _ _
   | exact ih1 _ _ _ _ _ _
   | exact LeO.none _
   | refine LeO.ite ?_ ?_
   | refine LeO.bind ?_ (fun _ => ?_)
  ·intro y0 y1 y2 y3 y4 y5
   unfold maptext_lines.j1
   repeat' first
   | (with_reducible exact ih0 _ _ _ _)
   | (with_reducible exact ih1 _ _ _ _ _ _)
   | (with_reducible exact LeO.refl _)
   | (with_reducible exact LeO.none _)
   | (with_reducible refine LeO.ite ?_ ?_)
   | (with_reducible refine LeO.bind ?_ (fun _ => ?_))
   | exact ih0 _ _ _ _
   | exact ih1 _ _ _ _ _ _
   | exact LeO.none _
   | refine LeO.ite ?_ ?_
   | refine LeO.bind ?_ (fun _ => ?_)
theorem maptext_lines.mono : ∀ a0 k, LeO (maptext_lines.f k a0) (maptext_lines.f (k + 1) a0) := by
 intro a0 k
 obtain ⟨ih0, ih1⟩ := maptext_lines.mono_l k
 unfold maptext_lines.f
 repeat' first
   | (with_reducible exact ih0 _ _ _ _)
   | (with_reducible exact ih1 _ _ _ _ _ _)
   | (with_reducible exact LeO.refl _)
   | (with_reducible exact LeO.none _)
   | (with_reducible refine LeO.ite ?_ ?_)
   | (with_reducible refine LeO.bind ?_ (fun _ => ?_))
   | exact ih0 _ _ _ _
   | exact ih1 _ _ _ _ _ _
   | exact LeO.none _
   | refine LeO.ite ?_ ?_
   | refine LeO.bind ?_ (fun _ => ?_)
set_option maxHeartbeats 8000000 in
set_option maxRecDepth 100000 in
theorem maptext_lines.calls (k : Nat) (a0 : ByteArray) (r1 : List (List ByteArray)) (r2 : Bool) (w : World) (h : maptext_lines.f k a0 = some (r1, r2)) (htab : TabAt w) :
  Calls Tryz.prog 29 #[.string a0] w fun e w' => ∃ v0_ : Value, e = .returned (.tuple #[v0_, .bool r2]) ∧ Kd.S (Kd.slice 9 Kd.string) 36 w' w.heap.size (fun _ => True) v0_ r1 ∧ Below w.heap.size w w' := by
 have HTAB := Aside0.mk htab
 clear htab
 have HB := Aside0.mk (Below.refl w.heap.size w)
 have H : ((strings_Split.f a0 (⟨#[10]⟩ : ByteArray)).bind fun t114 => (maptext_lines.l0 k ([] : List (List ByteArray)) t114 (t114.length : Int) 0)) = some (r1, r2) := h
 clear h
 replace H := Option.bind_eq_some_iff.mp H
 obtain ⟨t114, A20, H⟩ := H
 replace H : (maptext_lines.l0 k ([] : List (List ByteArray)) t114 (t114.length : Int) 0) = some (r1, r2) := H
 have A2 := Aside0.mk A20
 clear A20
 have H' := Aside0.mk H
 clear H
 go_enter Tryz.func29, Tryz.ntmps29
 go_wp2_with (first | ((with_reducible refine gate_callee (f := 58) rfl ?_); refine gl_ (some 9) rfl rfl Tryz.func58 (by kernel_rfl) rfl #[.string a0, .string (⟨#[10]⟩ : ByteArray)] rfl ?_; (with_reducible refine (strings_Split.calls a0 (⟨#[10]⟩ : ByteArray) t114 _ A2.out ?tb0_).mono ?_); (case tb0_ => exact tb_ HTAB HB); rintro e w3 ⟨v115, rfl, ho0, hb⟩; refine ⟨_, rfl, ?_⟩; have HO116 := Aside0.mk (Kd.R_lower ho0 (below_size (bh_ HB))); replace HB := bs_ HB hb; (try clear hb); (try clear hb2); (try clear hk); (try clear hi); (try clear ho0); obtain ⟨Ao4, co4, eo4⟩ := Kd.R_slice HO116.out; subst eo4))
 go_loopg [4, 11] k (fun kq v4 v11 w' => ∃ (x4_1 : List (List ByteArray)) (x11_1 : Int), v11 = .int .i64 x11_1 ∧ Aside0 (maptext_lines.l0 kq x4_1 t114 (t114.length : Int) x11_1 = some (r1, r2)) ∧ Aside0 (kq ≤ k) ∧ Aside0 (Kd.S (Kd.slice 9 Kd.string) 36 w' w.heap.size (fun k_ => some k_ ≠ ((.slice Ao4 t114.length co4) : Value).ownBlock) v4 x4_1) ∧ Aside0 (Kd.R Kd.string 9 w' w.heap.size (fun _ => True) (.slice Ao4 t114.length co4) t114) ∧ Aside0 (Below w.heap.size w w'))
 case atStart => exact ⟨(([] : List (List ByteArray))), (0), (by first | rfl | (simp; done) | (simp [*]; done)), H', ⟨Nat.le_refl _⟩, ⟨by first | exact Kd.S_nil _ _ _ _ _ | exact Kd.N_nil _ _ _ _ _ | exact Kd.V_nil _ _ _ _ _ | exact Kd.Q_nil _ _ _ _ _ | exact Kd.R_nil _ _ _ _ _⟩, ⟨by (with_reducible repeat (first | apply Kd.R_alloc | apply Kd.R_drewN | apply Kd.R_drew)); exact HO116.out⟩, ⟨bh_ HB⟩⟩
 case round =>
  clear H'
  try clear c2
  try clear p2
  obtain ⟨x4_1, x11_1, rfl, HA, HK1, HO_4, HO_9, HB⟩ := hrel
  cases gk with
  | zero => exact absurd HA.out (by simp [maptext_lines.l0])
  | succ k1 =>
   have H := HA.out
   clear HA
   simp only [maptext_lines.l0] at H
   by_cases c5 : x11_1 < (t114.length : Int)
   ·rw [if_pos c5] at H
    have c5b0 : decide (x11_1 < (t114.length : Int)) = true := decide_eq_true c5
    clear c5
    by_cases c6 : 0 ≤ x11_1
    ·rw [if_pos c6] at H
     have c6b0 : decide (0 ≤ x11_1) = true := decide_eq_true c6
     clear c6
     by_cases c7 : x11_1 < (t114.length : Int)
     ·rw [if_pos c7] at H
      have c7b0 : decide (x11_1 < (t114.length : Int)) = true := decide_eq_true c7
      clear c7
      replace H := Option.bind_eq_some_iff.mp H
      obtain ⟨t118, A80, H⟩ := H
      replace H : (if (t118.length : Int) = 0 then (maptext_lines.j1 k1 x4_1 t118 t114 (t114.length : Int) x11_1 true) else (if 0 < (t118.length : Int) then (if 0 < ((rdOf ByteArray.empty t118 0).size : Int) then (maptext_lines.j1 k1 x4_1 t118 t114 (t114.length : Int) x11_1 ((bt (rdOf ByteArray.empty t118 0) 0) == 35)) else (none)) else (none))) = some (r1, r2) := H
      have A8 := Aside0.mk A80
      clear A80
      have HC9 := Aside0.mk H
      clear H
      have p117 : 0 ≤ (x11_1 : Int) := of_decide_eq_true (by first | (with_reducible assumption) | assumption)
      have q117 : x11_1 < (t114.length : Int) := of_decide_eq_true (by first | (with_reducible assumption) | assumption)
      obtain ⟨ad117, e117, hx117_0⟩ := Kd.at_string (Kd.R_reads' HO_9.out).2.2 x11_1 p117 q117
      cases e117
      replace p117 := eq_true p117
      replace q117 := eq_true q117
      go_upto_region 7 with (first | ((with_reducible refine gate_callee (f := 59) rfl ?_); refine gl_ (some 16) rfl rfl Tryz.func59 (by kernel_rfl) rfl #[.string (rdOf ByteArray.empty t114 x11_1)] rfl ?_; (with_reducible refine (maptext_split.calls (rdOf ByteArray.empty t114 x11_1) t118 _ A8.out).mono ?_); rintro e w10 ⟨v119, rfl, ho0, hb⟩; refine ⟨_, rfl, ?_⟩; have n0_ := Aside0.mk (Kd.S_elder' (by (with_reducible repeat (first | apply Kd.S_alloc | apply Kd.S_drewN | apply Kd.S_drew)); exact HO_4.out) (Kd.R_base ho0) hb); have n1_ := Aside0.mk (Kd.R_elder' (by (with_reducible repeat (first | apply Kd.R_alloc | apply Kd.R_drewN | apply Kd.R_drew)); exact HO_9.out) (Kd.R_base ho0) hb); have n2_ := Aside0.mk (Kd.R_lower (Kd.R_new' ho0 (Kd.R_lt (by (with_reducible repeat (first | apply Kd.R_alloc | apply Kd.R_drewN | apply Kd.R_drew)); exact HO_9.out))) (below_size (bh_ HB))); have n3_ := bs_ HB hb; clear HO_4; clear HO_9; clear HB; have HO_4 := n0_; have HO_9 := n1_; have HO120 := n2_; have HB := n3_; clear n0_ n1_ n2_ n3_; (try clear hb); (try clear hb2); (try clear hk); (try clear hi); (try clear ho0)))
      (try simp only [Act.put, List.setIfInBounds_toArray, List.set_cons_zero, List.set_cons_succ])
      go_cut [21] (fun v21 wc => ∃ (kq : Nat) (x21_8 : Bool), v21 = .bool x21_8 ∧ Aside0 (maptext_lines.j1 kq x4_1 t118 t114 (t114.length : Int) x11_1 x21_8 = some (r1, r2)) ∧ Aside0 (kq ≤ k1) ∧ Aside0 (Kd.S (Kd.slice 9 Kd.string) 36 wc w.heap.size (fun k_ => some k_ ≠ (v119 : Value).ownBlock ∧ some k_ ≠ ((.slice (some ad117) t114.length co4) : Value).ownBlock) u4 x4_1) ∧ Aside0 (Kd.R Kd.string 9 wc w.heap.size (fun k_ => some k_ ≠ ((.slice (some ad117) t114.length co4) : Value).ownBlock) v119 t118) ∧ Aside0 (Kd.R Kd.string 9 wc w.heap.size (fun k_ => some k_ ≠ (v119 : Value).ownBlock) (.slice (some ad117) t114.length co4) t114) ∧ Aside0 (Below w.heap.size w wc))
      case first =>
       have H := HC9.out
       clear HC9
       by_cases c11 : (t118.length : Int) = 0
       ·rw [if_pos c11] at H
        have c11b0 : ((t118.length : Int) == 0) = true := beq_iff_eq.mpr c11
        have c11b1 : ((t118.length : Int) != 0) = false := bne_eq_false_iff_eq.mpr c11
        clear c11
        (first | rw [c11b0] | (simp only [i64_w, i32_w]; rw [c11b0]) | skip)
        have H' := Aside0.mk H
        clear H
        obtain ⟨Ao12, co12, eo12⟩ := Kd.R_slice HO120.out
        subst eo12
        go_wp2
        go_meet
        case rel => exact ⟨_, (true), (by first | rfl | (simp; done) | (simp [*]; done)), H', ⟨by have := HK1.out; first | omega | exact Nat.le_refl _⟩, ⟨by (with_reducible repeat (first | apply Kd.S_alloc | apply Kd.S_drewN | apply Kd.S_drew)); exact Kd.S_mono HO_4.out (fun _ hk => ⟨hk.2, hk.1⟩)⟩, ⟨by (with_reducible repeat (first | apply Kd.R_alloc | apply Kd.R_drewN | apply Kd.R_drew)); exact Kd.R_mono HO120.out (fun _ hk => hk.2)⟩, ⟨by (with_reducible repeat (first | apply Kd.R_alloc | apply Kd.R_drewN | apply Kd.R_drew)); exact Kd.R_mono HO_9.out (fun _ hk => hk.2)⟩, ⟨bh_ HB⟩⟩
       ·rw [if_neg c11] at H
        have c11b0 : ((t118.length : Int) == 0) = false := beq_eq_false_iff_ne.mpr c11
        have c11b1 : ((t118.length : Int) != 0) = true := bne_iff_ne.mpr c11
        have c11b2 : ¬ (t118 = []) := fun h_ => c11 (by rw [h_]; rfl)
        (first | rw [c11b0] | (simp only [i64_w, i32_w]; rw [c11b0]) | skip)
        by_cases c13 : 0 < (t118.length : Int)
        ·rw [if_pos c13] at H
         have c13b0 : decide (0 < (t118.length : Int)) = true := decide_eq_true c13
         have c13b1 : decide (0 < t118.length) = true := decide_eq_true (by omega)
         clear c13
         by_cases c14 : 0 < ((rdOf ByteArray.empty t118 0).size : Int)
         ·rw [if_pos c14] at H
          have c14b0 : decide (0 < ((rdOf ByteArray.empty t118 0).size : Int)) = true := decide_eq_true c14
          have c14b1 : decide (0 < (rdOf ByteArray.empty t118 0).size) = true := decide_eq_true (by omega)
          clear c14
          have H' := Aside0.mk H
          clear H
          obtain ⟨Ao16, co16, eo16⟩ := Kd.R_slice HO120.out
          subst eo16
          have p121 : 0 ≤ (0 : Int) := (by omega)
          have q121 : 0 < (t118.length : Int) := of_decide_eq_true (by first | (with_reducible assumption) | assumption)
          obtain ⟨ad121, e121, hx121_0⟩ := Kd.at_string (Kd.R_reads' HO120.out).2.2 0 p121 q121
          cases e121
          have qi121 : (0 < t118.length) = True := eq_true (by omega)
          (try rw [show ((0 : Int)).toNat = 0 from rfl] at hx121_0)
          (try rw [Addr.add_zero'] at hx121_0)
          replace p121 := eq_true p121
          replace q121 := eq_true q121
          have p15 : 0 ≤ (0 : Int) := (by omega)
          have q15 : 0 < (rdOf ByteArray.empty t118 0).size := (by have : (0 : Int) < ((rdOf ByteArray.empty t118 0).size : Int) := of_decide_eq_true (by first | (with_reducible assumption) | assumption); omega)
          have hx15 : ∀ h : 0 < (rdOf ByteArray.empty t118 0).size, (((rdOf ByteArray.empty t118 0)[0]'h).toNat : Int) = bt (rdOf ByteArray.empty t118 0) 0 := bt_at (rdOf ByteArray.empty t118 0) 0
          clear p15
          have qi15 : (0 < ((rdOf ByteArray.empty t118 0).size : Int)) = True := eq_true (of_decide_eq_true (by first | (with_reducible assumption) | assumption))
          replace q15 := eq_true q15
          go_wp2
          go_meet
          case rel => exact ⟨_, (((bt (rdOf ByteArray.empty t118 0) 0) == 35)), (by first | rfl | (simp; done) | (simp [*]; done)), H', ⟨by have := HK1.out; first | omega | exact Nat.le_refl _⟩, ⟨by (with_reducible repeat (first | apply Kd.S_alloc | apply Kd.S_drewN | apply Kd.S_drew)); exact Kd.S_mono HO_4.out (fun _ hk => ⟨hk.2, hk.1⟩)⟩, ⟨by (with_reducible repeat (first | apply Kd.R_alloc | apply Kd.R_drewN | apply Kd.R_drew)); exact Kd.R_mono HO120.out (fun _ hk => hk.2)⟩, ⟨by (with_reducible repeat (first | apply Kd.R_alloc | apply Kd.R_drewN | apply Kd.R_drew)); exact Kd.R_mono HO_9.out (fun _ hk => hk.2)⟩, ⟨bh_ HB⟩⟩
         ·rw [if_neg c14] at H
          exact absurd H (by simp)
        ·rw [if_neg c13] at H
         exact absurd H (by simp)
      case rest =>
       clear HC9
       try clear c1
       try clear p1
       try clear q1
       try clear hx1
       try clear qi1
       try clear c2
       try clear p2
       try clear c5
       try clear c5b0
       try clear c6
       try clear c6b0
       try clear c7
       try clear c7b0
       try clear c11
       try clear c11b0
       try clear c11b1
       try clear c11b2
       try clear p11
       try clear q11
       try clear hx11
       try clear p12
       try clear q12
       try clear hx12
       try clear qi12
       try clear c13
       try clear c13b0
       try clear c13b1
       try clear c14
       try clear c14b0
       try clear c14b1
       try clear p15
       try clear q15
       try clear hx15
       try clear qi15
       try clear hx117_0
       try clear hx121_0
       try clear p117
       try clear p121
       try clear p15
       try clear p2
       try clear q117
       try clear q121
       try clear q15
       obtain ⟨kq, x21_8, rfl, HA, HJ8, HO_4, HO_7, HO_9, HB⟩ := hcut
       cases kq with
       | zero => exact absurd HA.out (by simp [maptext_lines.j1])
       | succ kj8 =>
        have H := HA.out
        clear HA
        simp only [maptext_lines.j1] at H
        by_cases c17 : x21_8 = true
        ·subst c17
         have H1 : (maptext_lines.l0 kj8 x4_1 t114 (t114.length : Int) (wrap64 (x11_1 + 1))) = some (r1, r2) := by rw [if_pos rfl] at H; exact H
         clear H
         have H := H1
         clear H1
         have H' := Aside0.mk H
         clear H
         go_wp2
         go_roundg kj8
         case measure => have := HK1.out; have := HJ8.out; omega
         case rel => exact ⟨(x4_1), (wrap64 (x11_1 + 1)), (by first | rfl | (simp; done) | (simp [*]; done)), H', ⟨by have := HK1.out; have := HJ8.out; omega⟩, ⟨by (with_reducible repeat (first | apply Kd.S_alloc | apply Kd.S_drewN | apply Kd.S_drew)); exact Kd.S_mono HO_4.out (fun _ hk => hk.2)⟩, ⟨by (with_reducible repeat (first | apply Kd.R_alloc | apply Kd.R_drewN | apply Kd.R_drew)); exact Kd.R_mono HO_9.out (fun _ hk => trivial)⟩, ⟨bh_ HB⟩⟩
        ·replace c17 := Bool.eq_false_iff.mpr c17
         subst c17
         have H1 : (if (t118.length : Int) = 3 then (if x4_1.length < 5864062014805 then (maptext_lines.l0 kj8 (x4_1 ++ [t118]) t114 (t114.length : Int) (wrap64 (x11_1 + 1))) else (none)) else (some (([] : List (List ByteArray)), false))) = some (r1, r2) := by rw [if_neg (show ¬ (false = true) by decide)] at H; exact H
         clear H
         have H := H1
         clear H1
         by_cases c18 : (t118.length : Int) = 3
         ·rw [if_pos c18] at H
          have c18b0 : ((t118.length : Int) == 3) = true := beq_iff_eq.mpr c18
          have c18b1 : ((t118.length : Int) != 3) = false := bne_eq_false_iff_eq.mpr c18
          clear c18
          by_cases c19 : x4_1.length < 5864062014805
          ·rw [if_pos c19] at H
           have LMc19 := Aside0.mk c19
           clear c19
           obtain ⟨y122, hy122⟩ : ∃ y_ : List (List ByteArray), y_ = (x4_1 ++ [t118]) := ⟨_, rfl⟩
           replace H : (maptext_lines.l0 kj8 y122 t114 (t114.length : Int) (wrap64 (x11_1 + 1))) = some (r1, r2) := by first | (rw [hy122]; with_reducible exact H) | (have H2_ := (Option.bind_some _ _).symm.trans H; rw [hy122]; with_reducible exact H2_) | (have H2_ := (Option.bind_some _ _).symm.trans H; with_reducible exact H2_) | with_reducible exact H | (rw [hy122]; exact H) | exact H
           have Ny122 := Aside0.mk hy122
           clear hy122
           have H' := Aside0.mk H
           clear H
           obtain ⟨Ao20, co20, eo20⟩ := Kd.R_slice HO_7.out
           subst eo20
           go_wp2_with (first | ((with_reducible refine gate_builtin (b := .append) (xs := #[.tmp 17, .tmp 19]) rfl ?_); at_builtin; refine Kd.S_append (Kd.slice 9 Kd.string) (w0 := w) w.heap.size rfl (.tmp 17) (.tmp 19) 58 36 (.slice none 0 0) 24 rfl Tryz.underlying58 info36 rfl (by decide) (by omega) u4 x4_1 t118 [.slice Ao20 t118.length co20] (fun k_ => some k_ ≠ (.slice (some ad117) t114.length co4 : Value).ownBlock) (fun k_ => some k_ = (.slice Ao20 t118.length co20 : Value).ownBlock) rfl rfl ?aP (fun k_ hk_ => ((Kd.R_mono (ok' := fun k_ => ((fun k_ => some k_ ≠ (.slice (some ad117) t114.length co4 : Value).ownBlock)) k_ ∧ some k_ ≠ (u4 : Value).ownBlock) (Kd.R_apart' (HO_7.out) (Kd.S_typed HO_4.out) (by decide)) (fun k_ hk => ⟨hk.1, hk.2⟩))).1 k_ hk_.symm) ?aF ?aO ?aB ?aS ?aL ?_; (case aP => exact Kd.M_row (Kd.R_mono (Kd.R_tight rfl (Kd.R_mono (ok' := fun k_ => ((fun k_ => some k_ ≠ (.slice (some ad117) t114.length co4 : Value).ownBlock)) k_ ∧ some k_ ≠ (u4 : Value).ownBlock) (Kd.R_apart' (HO_7.out) (Kd.S_typed HO_4.out) (by decide)) (fun k_ hk => ⟨hk.1, hk.2⟩))) (fun _ h_ => h_))); (case aB => exact (bh_ HB)); (case aF => exact (fun k_ hk => Kd.fresh' (Kd.R_lt (by (with_reducible repeat (first | apply Kd.R_alloc | apply Kd.R_drewN | apply Kd.R_drew)); exact HO_9.out)) k_ hk)); (case aO => exact (by (with_reducible repeat (first | apply Kd.S_alloc | apply Kd.S_drewN | apply Kd.S_drew)); exact Kd.S_mono HO_4.out (fun k_ hk => ⟨hk.2, fun e_ => hk.1 e_⟩))); (case aS => exact (below_size (bh_ HB))); (case aL => have := LMc19.out; omega); intro v123 w21 ho hb hg hat; rw [← Ny122.out] at ho; have n0_ := Aside0.mk (Kd.R_over' (by (with_reducible repeat (first | apply Kd.R_alloc | apply Kd.R_drewN | apply Kd.R_drew)); exact HO_9.out) (Kd.S_typed (by (with_reducible repeat (first | apply Kd.S_alloc | apply Kd.S_drewN | apply Kd.S_drew)); exact HO_4.out)) (by decide) hg); have n1_ := Aside0.mk (hb); have n2_ := Aside0.mk (ho); clear HO_9; clear HB; clear HO_4; clear HO_7; have HO_9 := n0_; have HB := n1_; have HO124 := n2_; clear n0_ n1_ n2_; clear ho hb hg hat))
           go_roundg kj8
           case measure => have := HK1.out; have := HJ8.out; omega
           case rel => exact ⟨(y122), (wrap64 (x11_1 + 1)), (by first | rfl | (simp; done) | (simp [*]; done)), H', ⟨by have := HK1.out; have := HJ8.out; omega⟩, ⟨by (with_reducible repeat (first | apply Kd.S_alloc | apply Kd.S_drewN | apply Kd.S_drew)); exact HO124.out⟩, ⟨by (with_reducible repeat (first | apply Kd.R_alloc | apply Kd.R_drewN | apply Kd.R_drew)); exact Kd.R_mono HO_9.out (fun _ hk => trivial)⟩, ⟨bh_ HB⟩⟩
          ·rw [if_neg c19] at H
           exact absurd H (by simp)
         ·rw [if_neg c18] at H
          have c18b0 : ((t118.length : Int) == 3) = false := beq_eq_false_iff_ne.mpr c18
          have c18b1 : ((t118.length : Int) != 3) = true := bne_iff_ne.mpr c18
          simp only [Option.some.injEq, Prod.mk.injEq] at H
          obtain ⟨rfl, rfl⟩ := H
          obtain ⟨Ao22, co22, eo22⟩ := Kd.R_slice HO_7.out
          subst eo22
          go_wp2
          go_ret2
          exact ⟨_, by first | rfl | (simp [errW_none, errW_some] <;> rfl) | (simp [*, errW_none, errW_some] <;> rfl), by first | exact Kd.S_nil _ _ _ _ _ | exact Kd.N_nil _ _ _ _ _ | exact Kd.V_nil _ _ _ _ _ | exact Kd.Q_nil _ _ _ _ _ | exact Kd.R_nil _ _ _ _ _, bh_ HB⟩
     ·rw [if_neg c7] at H
      exact absurd H (by simp)
    ·rw [if_neg c6] at H
     exact absurd H (by simp)
   ·rw [if_neg c5] at H
    have c5b0 : decide (x11_1 < (t114.length : Int)) = false := decide_eq_false c5
    clear c5
    simp only [Option.some.injEq, Prod.mk.injEq] at H
    obtain ⟨rfl, rfl⟩ := H
    go_wp2
    go_ret2
    exact ⟨_, by first | rfl | (simp [errW_none, errW_some] <;> rfl) | (simp [*, errW_none, errW_some] <;> rfl), by (with_reducible repeat (first | apply Kd.S_alloc | apply Kd.S_drewN | apply Kd.S_drew)); exact Kd.S_mono HO_4.out (fun _ hk => trivial), bh_ HB⟩

-- none

-- none

-- none

-- none

-- none

-- none

-- none

-- none

-- none

-- none

end Go.Proofs.YtlcablcpcbmgeaaGreatDoor.P
