/- Laid by a program of this session's own (wip/wprint.py, over the kit's print.py): functions of the given program as plain Lean functions, and that the program's calls come to their answers. -/
import Derived.Test.YtlginoicaeonhaaDoorPx0
import Derived.Test.YtlginoicaeonhaaDoorPx12
namespace Go.Proofs.YtlginoicaeonhaaDoor.P
open Go.RowKit Go.Proofs.YtlginoicaeonhaaDoorW.PrintWords Go.Proofs.YtlginoicaeonhaaDoorW.PrintLast Go.Proofs.YtlginoicaeonhaaDoorW.PrintMore
attribute [local go_sem] max2_int min2_int max_two min_two max_three min_three max_four min_four   -- for this text's walks alone
set_option linter.unusedVariables false
set_option linter.unusedSimpArgs false

/-! ### salvorlaw9_ArgWords: function 6 -/
mutual
def salvorlaw9_ArgWords.l0 : Nat → ByteArray → Int → List ByteArray → ByteArray → Int → Option (Bool)
 | 0, _, _, _, _, _ => none
 | k + 1, x0, x1, x5, x6, x7 => if x7 < (x5.length : Int) then (if x7 > 0 then ((some (([x1] : List Int) : List Int)).bind fun y252 => (if x6.size + (strOfNums y252).size ≤ 9223372036854775807 then (salvorlaw9_ArgWords.j1 k x0 x1 x5 (x6 ++ (strOfNums y252)) x7) else (none))) else (salvorlaw9_ArgWords.j1 k x0 x1 x5 x6 x7)) else (if (x5.length : Int) > 0 then (if x6.toList = x0.toList then ((salvorlaw9_ArgRuns.f k).bind fun t251 => (some t251)) else (some false)) else (some false))
def salvorlaw9_ArgWords.j1 : Nat → ByteArray → Int → List ByteArray → ByteArray → Int → Option (Bool)
 | 0, _, _, _, _, _ => none
 | k + 1, x0, x1, x5, x6, x7 => if 0 ≤ x7 then (if x7 < (x5.length : Int) then (if x6.size + (rdOf ByteArray.empty x5 x7).size ≤ 9223372036854775807 then (salvorlaw9_ArgWords.l1 k x0 x1 x5 (x6 ++ (rdOf ByteArray.empty x5 x7)) x7 0) else (none)) else (none)) else (none)
def salvorlaw9_ArgWords.l1 : Nat → ByteArray → Int → List ByteArray → ByteArray → Int → Int → Option (Bool)
 | 0, _, _, _, _, _, _ => none
 | k + 1, x0, x1, x5, x6, x7, x8 => if 0 ≤ x7 then (if x7 < (x5.length : Int) then (if x8 < ((rdOf ByteArray.empty x5 x7).size : Int) then (if 0 ≤ x8 then (if (bt (rdOf ByteArray.empty x5 x7) x8) = x1 then (some false) else (salvorlaw9_ArgWords.l1 k x0 x1 x5 x6 x7 (wrap64 (x8 + 1)))) else (none)) else (salvorlaw9_ArgWords.l0 k x0 x1 x5 x6 (wrap64 (x7 + 1)))) else (none)) else (none)
end
def salvorlaw9_ArgWords.f (k : Nat) (a0 : ByteArray) (a1 : Int) : Option (Bool) := if (a0.size : Int) > 300 then ((salvorlaw9_ArgRuns.f k).bind fun t247 => (some t247)) else ((arg_Words.f a0 a1).bind fun t248 => (salvorlaw9_ArgWords.l0 k a0 a1 t248 (⟨#[]⟩ : ByteArray) 0))
theorem salvorlaw9_ArgWords.mono_l : ∀ k, (∀ y0 y1 y2 y3 y4, LeO (salvorlaw9_ArgWords.l0 k y0 y1 y2 y3 y4) (salvorlaw9_ArgWords.l0 (k + 1) y0 y1 y2 y3 y4)) ∧ (∀ y0 y1 y2 y3 y4, LeO (salvorlaw9_ArgWords.j1 k y0 y1 y2 y3 y4) (salvorlaw9_ArgWords.j1 (k + 1) y0 y1 y2 y3 y4)) ∧ (∀ y0 y1 y2 y3 y4 y5, LeO (salvorlaw9_ArgWords.l1 k y0 y1 y2 y3 y4 y5) (salvorlaw9_ArgWords.l1 (k + 1) y0 y1 y2 y3 y4 y5))
 | 0 => ⟨fun _ _ _ _ _ r h => by simp [salvorlaw9_ArgWords.l0] at h, fun _ _ _ _ _ r h => by simp [salvorlaw9_ArgWords.j1] at h, fun _ _ _ _ _ _ r h => by simp [salvorlaw9_ArgWords.l1] at h⟩
 | k + 1 => by
  obtain ⟨ih0, ih1, ih2⟩ := salvorlaw9_ArgWords.mono_l k
  refine ⟨?_, ?_, ?_⟩
  ·intro y0 y1 y2 y3 y4
   unfold salvorlaw9_ArgWords.l0
   repeat' first
   | (with_reducible exact ih0 _ _ _ _ _)
   | (with_reducible exact ih1 _ _ _ _ _)
   | (with_reducible exact ih2 _ _ _ _ _ _)
   | (with_reducible exact salvorlaw9_ArgRuns.mono _)
   | (with_reducible exact LeO.refl _)
   | (with_reducible exact LeO.none _)
   | (with_reducible refine LeO.ite ?_ ?_)
   | (with_reducible refine LeO.bind ?_ (fun _ => ?_))
   | exact ih0 _ _ _ _ _
   | exact ih1 _ _ _ _ _
   | exact ih2 _ _ _ _ _ _
   | exact salvorlaw9_ArgRuns.mono _
   | exact LeO.none _
   | refine LeO.ite ?_ ?_
   | refine LeO.bind ?_ (fun _ => ?_)
  ·intro y0 y1 y2 y3 y4
   unfold salvorlaw9_ArgWords.j1
   repeat' first
   | (with_reducible exact ih0 _ _ _ _ _)
   | (with_reducible exact ih1 _ _ _ _ _)
   | (with_reducible exact ih2 _ _ _ _ _ _)
   | (with_reducible exact salvorlaw9_ArgRuns.mono _)
   | (with_reducible exact LeO.refl _)
   | (with_reducible exact LeO.none _)
   | (with_reducible refine LeO.ite ?_ ?_)
   | (with_reducible refine LeO.bind ?_ (fun _ => ?_))
   | exact ih0 _ _ _ _ _
   | exact ih1 _ _ _ _ _
   | exact ih2 _ _ _ _ _ _
   | exact salvorlaw9_ArgRuns.mono _
   | exact LeO.none _
   | refine LeO.ite ?_ ?_
   | refine LeO.bind ?_ (fun _ => ?_)
  ·intro y0 y1 y2 y3 y4 y5
   unfold salvorlaw9_ArgWords.l1
   repeat' first
   | (with_reducible exact ih0 _ _ _ _ _)
   | (with_reducible exact ih1 _ _ _ _ _)
   | (with_reducible exact ih2 _ _ _ _ _ _)
   | (with_reducible exact salvorlaw9_ArgRuns.mono _)
   | (with_reducible exact LeO.refl _)
   | (with_reducible exact LeO.none _)
   | (with_reducible refine LeO.ite ?_ ?_)
   | (with_reducible refine LeO.bind ?_ (fun _ => ?_))
   | exact ih0 _ _ _ _ _
   | exact ih1 _ _ _ _ _
   | exact ih2 _ _ _ _ _ _
   | exact salvorlaw9_ArgRuns.mono _
   | exact LeO.none _
   | refine LeO.ite ?_ ?_
   | refine LeO.bind ?_ (fun _ => ?_)
theorem salvorlaw9_ArgWords.mono : ∀ a0 a1 k, LeO (salvorlaw9_ArgWords.f k a0 a1) (salvorlaw9_ArgWords.f (k + 1) a0 a1) := by
 intro a0 a1 k
 obtain ⟨ih0, ih1, ih2⟩ := salvorlaw9_ArgWords.mono_l k
 unfold salvorlaw9_ArgWords.f
 repeat' first
   | (with_reducible exact ih0 _ _ _ _ _)
   | (with_reducible exact ih1 _ _ _ _ _)
   | (with_reducible exact ih2 _ _ _ _ _ _)
   | (with_reducible exact salvorlaw9_ArgRuns.mono _)
   | (with_reducible exact LeO.refl _)
   | (with_reducible exact LeO.none _)
   | (with_reducible refine LeO.ite ?_ ?_)
   | (with_reducible refine LeO.bind ?_ (fun _ => ?_))
   | exact ih0 _ _ _ _ _
   | exact ih1 _ _ _ _ _
   | exact ih2 _ _ _ _ _ _
   | exact salvorlaw9_ArgRuns.mono _
   | exact LeO.none _
   | refine LeO.ite ?_ ?_
   | refine LeO.bind ?_ (fun _ => ?_)
set_option maxHeartbeats 8000000 in
set_option maxRecDepth 100000 in
theorem salvorlaw9_ArgWords.calls (k : Nat) (a0 : ByteArray) (a1 : Int) (r : Bool) (w : World) (h : salvorlaw9_ArgWords.f k a0 a1 = some r) (htab : TabAt w) (hrt : r = true) :
  Calls Tryd.prog 6 #[.string a0, .int .u8 a1] w fun e w' => e = .returned (.bool r) ∧ Below w.heap.size w w' := by
 have HT := Aside0.mk hrt
 clear hrt
 have HTAB := Aside0.mk htab
 clear htab
 have HB := Aside0.mk (Below.refl w.heap.size w)
 have H : (if (a0.size : Int) > 300 then ((salvorlaw9_ArgRuns.f k).bind fun t247 => (some t247)) else ((arg_Words.f a0 a1).bind fun t248 => (salvorlaw9_ArgWords.l0 k a0 a1 t248 (⟨#[]⟩ : ByteArray) 0))) = some r := h
 clear h
 by_cases c3 : (a0.size : Int) > 300
 ·rw [if_pos c3] at H
  have c3b0 : decide (300 < (a0.size : Int)) = true := decide_eq_true c3
  have c3b1 : decide (300 < a0.size) = true := decide_eq_true (by omega)
  clear c3
  replace H := Option.bind_eq_some_iff.mp H
  obtain ⟨t247, A40, H⟩ := H
  replace H : (some t247) = some r := H
  have A4 := Aside0.mk A40
  clear A40
  obtain rfl := Option.some.inj H
  go_enter Tryd.func6, Tryd.ntmps6
  go_wp2_with (first | ((with_reducible refine gate_callee (f := 3) rfl ?_); refine gl_ (some 12) rfl rfl Tryd.func3 (by kernel_rfl) rfl #[] rfl ?_; (with_reducible refine (salvorlaw9_ArgRuns.calls k  t247 _ A4.out ?tb0_).mono ?_); (case tb0_ => exact tb_ HTAB HB); rintro e w5 ⟨rfl, hb⟩; refine ⟨_, rfl, ?_⟩; replace HB := bs_ HB hb; (try clear hb)))
  go_ret
  exact ⟨by first | rfl | (simp [errW_none, errW_some] <;> rfl) | (simp [*, errW_none, errW_some] <;> rfl), bh_ HB⟩
 ·rw [if_neg c3] at H
  have c3b0 : decide (300 < (a0.size : Int)) = false := decide_eq_false c3
  have c3b1 : decide (300 < a0.size) = false := decide_eq_false (by omega)
  clear c3
  replace H := Option.bind_eq_some_iff.mp H
  obtain ⟨t248, A60, H⟩ := H
  replace H : (salvorlaw9_ArgWords.l0 k a0 a1 t248 (⟨#[]⟩ : ByteArray) 0) = some r := H
  have A6 := Aside0.mk A60
  clear A60
  have H' := Aside0.mk H
  clear H
  go_enter Tryd.func6, Tryd.ntmps6
  go_wp2_with (first | ((with_reducible refine gate_callee (f := 12) rfl ?_); refine gl_ (some 15) rfl rfl Tryd.func12 (by kernel_rfl) rfl #[.string a0, .int .u8 a1] rfl ?_; (with_reducible refine (arg_Words.calls a0 a1 t248 _ A6.out ?tb2_).mono ?_); (case tb2_ => exact tb_ HTAB HB); rintro e w7 ⟨v249, rfl, ho0, hb⟩; refine ⟨_, rfl, ?_⟩; have HO250 := Aside0.mk (Kd.R_lower ho0 (below_size (bh_ HB))); replace HB := bs_ HB hb; (try clear hb); (try clear hb2); (try clear hk); (try clear hi); (try clear ho0)))
  go_loopg [6, 7] k (fun kq v6 v7 w' => ∃ (x6_1 : ByteArray) (x7_1 : Int), v6 = .string x6_1 ∧ v7 = .int .i64 x7_1 ∧ Aside0 (salvorlaw9_ArgWords.l0 kq a0 a1 t248 x6_1 x7_1 = some r) ∧ Aside0 (kq ≤ k) ∧ Aside0 (Kd.R Kd.string 9 w' w.heap.size (fun _ => True) v249 t248) ∧ Aside0 (Below w.heap.size w w'))
  case atStart => exact ⟨((⟨#[]⟩ : ByteArray)), (0), (by first | rfl | (simp; done) | (simp [*]; done)), (by first | rfl | (simp; done) | (simp [*]; done)), H', ⟨Nat.le_refl _⟩, ⟨by (with_reducible repeat (first | apply Kd.R_alloc | apply Kd.R_drewN | apply Kd.R_drew)); exact HO250.out⟩, ⟨bh_ HB⟩⟩
  case round =>
   clear H'
   try clear c1
   try clear p2
   try clear c3
   try clear c3b0
   try clear c3b1
   try clear c6
   obtain ⟨x6_1, x7_1, rfl, rfl, HA, HK1, HO_5, HB⟩ := hrel
   cases gk with
   | zero => exact absurd HA.out (by simp [salvorlaw9_ArgWords.l0])
   | succ k1 =>
    have H := HA.out
    clear HA
    simp only [salvorlaw9_ArgWords.l0] at H
    by_cases c8 : x7_1 < (t248.length : Int)
    ·rw [if_pos c8] at H
     have c8b0 : decide (x7_1 < (t248.length : Int)) = true := decide_eq_true c8
     clear c8
     have HC9 := Aside0.mk H
     clear H
     obtain ⟨Ao10, co10, eo10⟩ := Kd.R_slice HO_5.out
     subst eo10
     go_upto_if 23 with (fail)
     go_cut [6] (fun v6 wc => ∃ (kq : Nat) (x6_8 : ByteArray), v6 = .string x6_8 ∧ Aside0 (salvorlaw9_ArgWords.j1 kq a0 a1 t248 x6_8 x7_1 = some r) ∧ Aside0 (kq ≤ k1) ∧ Aside0 (Kd.R Kd.string 9 wc w.heap.size (fun _ => True) (.slice Ao10 t248.length co10) t248) ∧ Aside0 (Below w.heap.size w wc))
     case first =>
      have H := HC9.out
      clear HC9
      by_cases c11 : x7_1 > 0
      ·rw [if_pos c11] at H
       have c11b0 : decide (0 < x7_1) = true := decide_eq_true c11
       clear c11
       (first | rw [c11b0] | (simp only [i64_w, i32_w]; rw [c11b0]) | skip)
       obtain ⟨y252, hy252⟩ : ∃ y_ : List Int, y_ = (([a1] : List Int)) := ⟨_, rfl⟩
       replace H : (if x6_1.size + (strOfNums y252).size ≤ 9223372036854775807 then (salvorlaw9_ArgWords.j1 k1 a0 a1 t248 (x6_1 ++ (strOfNums y252)) x7_1) else (none)) = some r := by first | (rw [hy252]; with_reducible exact H) | (have H2_ := (Option.bind_some _ _).symm.trans H; rw [hy252]; with_reducible exact H2_) | (have H2_ := (Option.bind_some _ _).symm.trans H; with_reducible exact H2_) | with_reducible exact H | (rw [hy252]; exact H) | exact H
       have Ny252 := Aside0.mk hy252
       clear hy252
       by_cases c12 : x6_1.size + (strOfNums y252).size ≤ 9223372036854775807
       ·rw [if_pos c12] at H
        have c12b0 := eq_true c12
        have c12b1 : decide (x6_1.size + (strOfNums y252).size ≤ 9223372036854775807) = true := decide_eq_true c12
        try have c12b2 : (9223372036854775807 < x6_1.size + (strOfNums y252).size) = False := eq_false (Nat.not_lt.2 c12)
        have H' := Aside0.mk H
        clear H
        go_wp2_with (first | ((with_reducible refine gate_dst (N := 26) rfl ?_); refine Kd.R_lit (Kd.int .u8) _ 5 ?hg (N := 26) ?hd (xs := ([a1] : List Int)) (inner := [.int .u8 a1]) (ok := fun _ => True) (okp := fun _ => True) ?hr ?hp (fun _ hk => hk) trivial (Below.refl _ _) (Nat.le_refl _) (by simp) ?_; (case hd => rfl); (case hg => rfl); (case hr => first | (go_simp; done) | (go_simp; rfl)); (case hp => exact (Reps.one (show Kd.M (Kd.int .u8) _ _ _ a1 [.int .u8 a1] from rfl) (Reps.none _ _))); intro v253 w13 ho14 hb hg_ hnew_; clear hg_ hnew_; (first | rw [← Ny252.out] at ho14 | (simp only [Int.reduceToNat] at ho14; rw [← Ny252.out] at ho14)); have n0_ := Aside0.mk (Kd.R_below (by (with_reducible repeat (first | apply Kd.R_alloc | apply Kd.R_drewN | apply Kd.R_drew)); exact HO_5.out) hb); have n1_ := Aside0.mk (Kd.R_lower ho14 (below_size (bh_ HB))); have n2_ := bs_ HB hb; clear HO_5; clear HB; have HO_5 := n0_; have HO254 := n1_; have HB := n2_; clear n0_ n1_ n2_; clear hb ho14; have hcv15 := own_string (P := Tryd.prog) Tryd.underlying41 Tryd.underlying5 Tryd.underlying9 (Kd.own_of_R HO254.out)))
        go_meet
        case rel => exact ⟨_, (x6_1 ++ (strOfNums y252)), (by first | rfl | (simp; done) | (simp [*]; done)), H', ⟨by have := HK1.out; first | omega | exact Nat.le_refl _⟩, ⟨by (with_reducible repeat (first | apply Kd.R_alloc | apply Kd.R_drewN | apply Kd.R_drew)); exact HO_5.out⟩, ⟨bh_ HB⟩⟩
       ·rw [if_neg c12] at H
        exact absurd H (by simp)
      ·rw [if_neg c11] at H
       have c11b0 : decide (0 < x7_1) = false := decide_eq_false c11
       clear c11
       (first | rw [c11b0] | (simp only [i64_w, i32_w]; rw [c11b0]) | skip)
       have H' := Aside0.mk H
       clear H
       go_wp2
       go_meet
       case rel => exact ⟨_, (x6_1), (by first | rfl | (simp; done) | (simp [*]; done)), H', ⟨by have := HK1.out; first | omega | exact Nat.le_refl _⟩, ⟨by (with_reducible repeat (first | apply Kd.R_alloc | apply Kd.R_drewN | apply Kd.R_drew)); exact HO_5.out⟩, ⟨bh_ HB⟩⟩
     case rest =>
      clear HC9
      try clear c1
      try clear hcv1
      try clear p2
      try clear c3
      try clear c3b0
      try clear c3b1
      try clear c6
      try clear c8
      try clear c8b0
      try clear c11
      try clear c11b0
      try clear c12
      try clear c12b0
      try clear c12b1
      try clear c12b2
      try clear hcv15
      try clear p2
      obtain ⟨kq, x6_8, rfl, HA, HJ8, HO_5, HB⟩ := hcut
      cases kq with
      | zero => exact absurd HA.out (by simp [salvorlaw9_ArgWords.j1])
      | succ kj8 =>
       have H := HA.out
       clear HA
       simp only [salvorlaw9_ArgWords.j1] at H
       by_cases c16 : 0 ≤ x7_1
       ·rw [if_pos c16] at H
        have c16b0 : decide (0 ≤ x7_1) = true := decide_eq_true c16
        clear c16
        by_cases c17 : x7_1 < (t248.length : Int)
        ·rw [if_pos c17] at H
         have c17b0 : decide (x7_1 < (t248.length : Int)) = true := decide_eq_true c17
         clear c17
         by_cases c18 : x6_8.size + (rdOf ByteArray.empty t248 x7_1).size ≤ 9223372036854775807
         ·rw [if_pos c18] at H
          have c18b0 := eq_true c18
          have c18b1 : decide (x6_8.size + (rdOf ByteArray.empty t248 x7_1).size ≤ 9223372036854775807) = true := decide_eq_true c18
          try have c18b2 : (9223372036854775807 < x6_8.size + (rdOf ByteArray.empty t248 x7_1).size) = False := eq_false (Nat.not_lt.2 c18)
          have H' := Aside0.mk H
          clear H
          have p255 : 0 ≤ (x7_1 : Int) := of_decide_eq_true (by first | (with_reducible assumption) | assumption)
          have q255 : x7_1 < (t248.length : Int) := of_decide_eq_true (by first | (with_reducible assumption) | assumption)
          obtain ⟨ad255, e255, hx255_0⟩ := Kd.at_string (Kd.R_reads' HO_5.out).2.2 x7_1 p255 q255
          cases e255
          replace p255 := eq_true p255
          replace q255 := eq_true q255
          go_wp2
          go_loopg [8] kj8 (fun kq v8 w' => ∃ (x8_3 : Int), v8 = .int .i64 x8_3 ∧ Aside0 (salvorlaw9_ArgWords.l1 kq a0 a1 t248 (x6_8 ++ (rdOf ByteArray.empty t248 x7_1)) x7_1 x8_3 = some r) ∧ Aside0 (kq ≤ kj8) ∧ Aside0 (Kd.R Kd.string 9 w' w.heap.size (fun _ => True) (.slice (some ad255) t248.length co10) t248) ∧ Aside0 (Below w.heap.size w w'))
          case atStart => exact ⟨(0), (by first | rfl | (simp; done) | (simp [*]; done)), H', ⟨Nat.le_refl _⟩, ⟨by (with_reducible repeat (first | apply Kd.R_alloc | apply Kd.R_drewN | apply Kd.R_drew)); exact HO_5.out⟩, ⟨bh_ HB⟩⟩
          case round =>
           clear H'
           try clear c1
           try clear hcv1
           try clear p2
           try clear q2
           try clear hx2
           try clear c3
           try clear c3b0
           try clear c3b1
           try clear c6
           try clear c8
           try clear c8b0
           try clear c11
           try clear c11b0
           try clear c12
           try clear c12b0
           try clear c12b1
           try clear c12b2
           try clear hcv15
           try clear c16
           try clear c16b0
           try clear c17
           try clear c17b0
           try clear c18
           try clear c18b0
           try clear c18b1
           try clear c18b2
           try clear hx255_0
           try clear p2
           try clear p255
           try clear q255
           obtain ⟨x8_3, rfl, HA, HK3, HO_5, HB⟩ := hrel
           cases gk with
           | zero => exact absurd HA.out (by simp [salvorlaw9_ArgWords.l1])
           | succ k3 =>
            have H := HA.out
            clear HA
            simp only [salvorlaw9_ArgWords.l1] at H
            by_cases c19 : 0 ≤ x7_1
            ·rw [if_pos c19] at H
             have c19b0 : decide (0 ≤ x7_1) = true := decide_eq_true c19
             clear c19
             by_cases c20 : x7_1 < (t248.length : Int)
             ·rw [if_pos c20] at H
              have c20b0 : decide (x7_1 < (t248.length : Int)) = true := decide_eq_true c20
              clear c20
              by_cases c21 : x8_3 < ((rdOf ByteArray.empty t248 x7_1).size : Int)
              ·rw [if_pos c21] at H
               have c21b0 : decide (x8_3 < ((rdOf ByteArray.empty t248 x7_1).size : Int)) = true := decide_eq_true c21
               clear c21
               by_cases c22 : 0 ≤ x8_3
               ·rw [if_pos c22] at H
                have c22b0 : decide (0 ≤ x8_3) = true := decide_eq_true c22
                clear c22
                by_cases c24 : (bt (rdOf ByteArray.empty t248 x7_1) x8_3) = a1
                ·rw [if_pos c24] at H
                 have c24b0 : ((bt (rdOf ByteArray.empty t248 x7_1) x8_3) == a1) = true := beq_iff_eq.mpr c24
                 have c24b1 : ((bt (rdOf ByteArray.empty t248 x7_1) x8_3) != a1) = false := bne_eq_false_iff_eq.mpr c24
                 clear c24
                 exact absurd ((Option.some.inj H).trans HT.out) (by simp)
                ·rw [if_neg c24] at H
                 have c24b0 : ((bt (rdOf ByteArray.empty t248 x7_1) x8_3) == a1) = false := beq_eq_false_iff_ne.mpr c24
                 have c24b1 : ((bt (rdOf ByteArray.empty t248 x7_1) x8_3) != a1) = true := bne_iff_ne.mpr c24
                 have H' := Aside0.mk H
                 clear H
                 have p256 : 0 ≤ (x7_1 : Int) := of_decide_eq_true (by first | (with_reducible assumption) | assumption)
                 have q256 : x7_1 < (t248.length : Int) := of_decide_eq_true (by first | (with_reducible assumption) | assumption)
                 obtain ⟨ad256, e256, hx256_0⟩ := Kd.at_string (Kd.R_reads' HO_5.out).2.2 x7_1 p256 q256
                 obtain rfl : ad255 = ad256 := (by injection e256)
                 replace p256 := eq_true p256
                 replace q256 := eq_true q256
                 have p257 : 0 ≤ (x7_1 : Int) := of_decide_eq_true (by first | (with_reducible assumption) | assumption)
                 have q257 : x7_1 < (t248.length : Int) := of_decide_eq_true (by first | (with_reducible assumption) | assumption)
                 obtain ⟨ad257, e257, hx257_0⟩ := Kd.at_string (Kd.R_reads' HO_5.out).2.2 x7_1 p257 q257
                 obtain rfl : ad255 = ad257 := (by injection e257)
                 replace p257 := eq_true p257
                 replace q257 := eq_true q257
                 have p23 : 0 ≤ (x8_3 : Int) := of_decide_eq_true (by first | (with_reducible assumption) | assumption)
                 have q23 : x8_3 < ((rdOf ByteArray.empty t248 x7_1).size : Int) := of_decide_eq_true (by first | (with_reducible assumption) | assumption)
                 have hx23 := bt_at (rdOf ByteArray.empty t248 x7_1) x8_3
                 replace p23 := eq_true p23
                 replace q23 := eq_true q23
                 go_wp2
                 go_roundg k3
                 case measure => have := HK1.out; have := HJ8.out; have := HK3.out; omega
                 case rel => exact ⟨(wrap64 (x8_3 + 1)), (by first | rfl | (simp; done) | (simp [*]; done)), H', ⟨by have := HK1.out; have := HJ8.out; have := HK3.out; omega⟩, ⟨by (with_reducible repeat (first | apply Kd.R_alloc | apply Kd.R_drewN | apply Kd.R_drew)); exact HO_5.out⟩, ⟨bh_ HB⟩⟩
               ·rw [if_neg c22] at H
                exact absurd H (by simp)
              ·rw [if_neg c21] at H
               have c21b0 : decide (x8_3 < ((rdOf ByteArray.empty t248 x7_1).size : Int)) = false := decide_eq_false c21
               clear c21
               have H' := Aside0.mk H
               clear H
               have p256 : 0 ≤ (x7_1 : Int) := of_decide_eq_true (by first | (with_reducible assumption) | assumption)
               have q256 : x7_1 < (t248.length : Int) := of_decide_eq_true (by first | (with_reducible assumption) | assumption)
               obtain ⟨ad256, e256, hx256_0⟩ := Kd.at_string (Kd.R_reads' HO_5.out).2.2 x7_1 p256 q256
               obtain rfl : ad255 = ad256 := (by injection e256)
               replace p256 := eq_true p256
               replace q256 := eq_true q256
               go_wp2
               go_roundg k3
               case measure => have := HK1.out; have := HJ8.out; have := HK3.out; omega
               case rel => exact ⟨((x6_8 ++ (rdOf ByteArray.empty t248 x7_1))), (wrap64 (x7_1 + 1)), (by first | rfl | (simp; done) | (simp [*]; done)), (by first | rfl | (simp; done) | (simp [*]; done)), H', ⟨by have := HK1.out; have := HJ8.out; have := HK3.out; omega⟩, ⟨by (with_reducible repeat (first | apply Kd.R_alloc | apply Kd.R_drewN | apply Kd.R_drew)); exact HO_5.out⟩, ⟨bh_ HB⟩⟩
             ·rw [if_neg c20] at H
              exact absurd H (by simp)
            ·rw [if_neg c19] at H
             exact absurd H (by simp)
         ·rw [if_neg c18] at H
          exact absurd H (by simp)
        ·rw [if_neg c17] at H
         exact absurd H (by simp)
       ·rw [if_neg c16] at H
        exact absurd H (by simp)
    ·rw [if_neg c8] at H
     have c8b0 : decide (x7_1 < (t248.length : Int)) = false := decide_eq_false c8
     clear c8
     by_cases c25 : (t248.length : Int) > 0
     ·rw [if_pos c25] at H
      have c25b0 : decide (0 < (t248.length : Int)) = true := decide_eq_true c25
      have c25b1 : decide (0 < t248.length) = true := decide_eq_true (by omega)
      clear c25
      by_cases c26 : x6_1.toList = a0.toList
      ·rw [if_pos c26] at H
       have c26b0 : (x6_1.toList == a0.toList) = true := beq_iff_eq.mpr c26
       have c26b1 : (x6_1.toList != a0.toList) = false := bne_eq_false_iff_eq.mpr c26
       clear c26
       replace H := Option.bind_eq_some_iff.mp H
       obtain ⟨t251, A270, H⟩ := H
       replace H : (some t251) = some r := H
       have A27 := Aside0.mk A270
       clear A270
       obtain rfl := Option.some.inj H
       obtain ⟨Ao28, co28, eo28⟩ := Kd.R_slice HO_5.out
       subst eo28
       go_wp2_with (first | (go_at_call 3; (with_reducible refine (salvorlaw9_ArgRuns.calls k1  t251 _ A27.out ?tb4_).mono ?_); (case tb4_ => exact tb_ HTAB HB); rintro e w29 ⟨rfl, hb⟩; have n0_ := Aside0.mk (Kd.R_below (by (with_reducible repeat (first | apply Kd.R_alloc | apply Kd.R_drewN | apply Kd.R_drew)); exact HO_5.out) hb); have n1_ := bs_ HB hb; clear HO_5; clear HB; have HO_5 := n0_; have HB := n1_; clear n0_ n1_; (try clear hb)))
       go_ret
       exact ⟨by first | rfl | (simp [errW_none, errW_some] <;> rfl) | (simp [*, errW_none, errW_some] <;> rfl), bh_ HB⟩
      ·rw [if_neg c26] at H
       have c26b0 : (x6_1.toList == a0.toList) = false := beq_eq_false_iff_ne.mpr c26
       have c26b1 : (x6_1.toList != a0.toList) = true := bne_iff_ne.mpr c26
       exact absurd ((Option.some.inj H).trans HT.out) (by simp)
     ·rw [if_neg c25] at H
      have c25b0 : decide (0 < (t248.length : Int)) = false := decide_eq_false c25
      have c25b1 : decide (0 < t248.length) = false := decide_eq_false (by omega)
      clear c25
      exact absurd ((Option.some.inj H).trans HT.out) (by simp)

end Go.Proofs.YtlginoicaeonhaaDoor.P
