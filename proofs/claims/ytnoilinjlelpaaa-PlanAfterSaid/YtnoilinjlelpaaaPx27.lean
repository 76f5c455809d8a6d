/- Laid by a program of this session's own (wip/wprint.py, over the kit's print.py): functions of the given program as plain Lean functions, and that the program's calls come to their answers. -/
import Derived.Test.YtnoilinjlelpaaaPx0
import Derived.Test.YtnoilinjlelpaaaPx22
namespace Go.Proofs.Ytnoilinjlelpaaa.P
open Go.RowKit Go.Proofs.YtnoilinjlelpaaaW.PrintWords Go.Proofs.YtnoilinjlelpaaaW.PrintLast Go.Proofs.YtnoilinjlelpaaaW.PrintMore
attribute [local go_sem] max2_int min2_int max_two min_two max_three min_three max_four min_four   -- for this text's walks alone
set_option linter.unusedVariables false
set_option linter.unusedSimpArgs false

/-! ### salvorref16_First: function 69 -/
mutual
def salvorref16_First.l0 : Nat → List (S33) → Int → Int → Int → Option (Int × Int × Int × Bool)
 | 0, _, _, _, _ => none
 | k + 1, x0, x1, x2, x8 => if x8 < (x0.length : Int) then ((salvorref16_MayRegions.f k x0).bind fun t344 => (salvorref16_First.j1 k x0 x1 x2 x8 t344)) else (salvorref16_First.j1 k x0 x1 x2 x8 false)
def salvorref16_First.j1 : Nat → List (S33) → Int → Int → Int → Bool → Option (Int × Int × Int × Bool)
 | 0, _, _, _, _, _ => none
 | k + 1, x0, x1, x2, x8, x18 => if x18 = true then (if 0 ≤ x8 then (if x8 < (x0.length : Int) then (if ((rd_T33 x0 x8).f2) = x1 then (if (mx ((rd_T33 x0 x8).f0) x2) < (wrap64 (((rd_T33 x0 x8).f0) + ((rd_T33 x0 x8).f1))) then (some (mx ((rd_T33 x0 x8).f0) x2, wrap64 ((wrap64 (((rd_T33 x0 x8).f0) + ((rd_T33 x0 x8).f1))) - (mx ((rd_T33 x0 x8).f0) x2)), x1, true)) else (salvorref16_First.l0 k x0 x1 x2 (wrap64 (x8 + 1)))) else (salvorref16_First.l0 k x0 x1 x2 (wrap64 (x8 + 1)))) else (none)) else (none)) else (some (0, 0, 0, false))
end
def salvorref16_First.f (k : Nat) (l0 : List (S33)) (a1 : Int) (a2 : Int) : Option (Int × Int × Int × Bool) := salvorref16_First.l0 k l0 a1 a2 0
theorem salvorref16_First.mono_l : ∀ k, (∀ y0 y1 y2 y3, LeO (salvorref16_First.l0 k y0 y1 y2 y3) (salvorref16_First.l0 (k + 1) y0 y1 y2 y3)) ∧ (∀ y0 y1 y2 y3 y4, LeO (salvorref16_First.j1 k y0 y1 y2 y3 y4) (salvorref16_First.j1 (k + 1) y0 y1 y2 y3 y4))
 | 0 => ⟨fun _ _ _ _ r h => by simp [salvorref16_First.l0] at h, fun _ _ _ _ _ r h => by simp [salvorref16_First.j1] at h⟩
 | k + 1 => by
  obtain ⟨ih0, ih1⟩ := salvorref16_First.mono_l k
  refine ⟨?_, ?_⟩
  all_goals intros
  all_goals first | unfold salvorref16_First.l0 | unfold salvorref16_First.j1
  all_goals repeat' first | (with_reducible exact ih0 _ _ _ _) | (with_reducible exact ih1 _ _ _ _ _) | (with_reducible exact salvorref16_MayRegions.mono _ _) | (with_reducible exact LeO.refl _) | (with_reducible exact LeO.none _) | (with_reducible refine LeO.ite ?_ ?_) | (with_reducible refine LeO.bind ?_ (fun _ => ?_)) | exact ih0 _ _ _ _ | exact ih1 _ _ _ _ _ | exact salvorref16_MayRegions.mono _ _ | exact LeO.none _ | refine LeO.ite ?_ ?_ | refine LeO.bind ?_ (fun _ => ?_)
theorem salvorref16_First.mono : ∀ a0 a1 a2 k, LeO (salvorref16_First.f k a0 a1 a2) (salvorref16_First.f (k + 1) a0 a1 a2) := by
 intro a0 a1 a2 k
 obtain ⟨ih0, ih1⟩ := salvorref16_First.mono_l k
 unfold salvorref16_First.f
 repeat' first
   | (with_reducible exact ih0 _ _ _ _)
   | (with_reducible exact ih1 _ _ _ _ _)
   | (with_reducible exact salvorref16_MayRegions.mono _ _)
   | (with_reducible exact LeO.refl _)
   | (with_reducible exact LeO.none _)
   | (with_reducible refine LeO.ite ?_ ?_)
   | (with_reducible refine LeO.bind ?_ (fun _ => ?_))
   | exact ih0 _ _ _ _
   | exact ih1 _ _ _ _ _
   | exact salvorref16_MayRegions.mono _ _
   | exact LeO.none _
   | refine LeO.ite ?_ ?_
   | refine LeO.bind ?_ (fun _ => ?_)
set_option maxHeartbeats 8000000 in
set_option maxRecDepth 100000 in
theorem salvorref16_First.calls (k : Nat) (A0 : Option Addr) (c0 : Nat) (l0 : List (S33)) (a1 : Int) (a2 : Int) (r1 : Int) (r2 : Int) (r3 : Int) (r4 : Bool) (w : World) (hr0 : Kd.C k33 w A0 l0.length l0) (hc0 : l0.length ≤ c0) (h : salvorref16_First.f k l0 a1 a2 = some (r1, r2, r3, r4)) :
  Calls Try.prog 69 #[.slice A0 l0.length c0, .int .u8 a1, .int .i64 a2] w fun e w' => e = .returned (.tuple #[.agg #[.int .i64 r1, .int .i64 r2, .int .u8 r3], .bool r4]) ∧ Below w.heap.size w w' := by
 have hu33 := Try.underlying33; have HR0 := Aside0.mk hr0; have HC0 := Aside0.mk hc0; clear hr0 hc0
 have HB := Aside0.mk (Below.refl w.heap.size w)
 have H : (salvorref16_First.l0 k l0 a1 a2 0) = some (r1, r2, r3, r4) := h
 clear h
 have H' := Aside0.mk H
 clear H
 go_enter Try.func69, Try.ntmps69
 go_wp2_with (first | ((with_reducible refine gate_dst (N := 6) rfl ?_); refine box_e 6 #[.int .i64 0, .int .i64 0, .int .u8 0] 33 ?_; intro gb343 hg w4 hbox hb; have BK343 := Aside0.mk hbox; have GW343 := bg_ HB hg; have GE343 := bg_ HB hg; replace HB := bs_ HB hb; clear hb hbox hg))
 repeat (go_quiet (first | ((with_reducible refine gate_dst (N := 6) rfl ?_); refine box_e 6 #[.int .i64 0, .int .i64 0, .int .u8 0] 33 ?_; intro gb343 hg w4 hbox hb; have BK343 := Aside0.mk hbox; have GW343 := bg_ HB hg; have GE343 := bg_ HB hg; replace HB := bs_ HB hb; clear hb hbox hg)); try go_wp2_with (first | ((with_reducible refine gate_dst (N := 6) rfl ?_); refine box_e 6 #[.int .i64 0, .int .i64 0, .int .u8 0] 33 ?_; intro gb343 hg w4 hbox hb; have BK343 := Aside0.mk hbox; have GW343 := bg_ HB hg; have GE343 := bg_ HB hg; replace HB := bs_ HB hb; clear hb hbox hg)))
 go_loopg [8] k (fun kq v8 w' => ∃ (x8_1 : Int) (x344000_1 : Int) (x344001_1 : Int) (x344002_1 : Int), v8 = .int .i64 x8_1 ∧ Aside0 (salvorref16_First.l0 kq l0 a1 a2 x8_1 = some (r1, r2, r3, r4)) ∧ Aside0 (kq ≤ k) ∧ Aside0 (w'.heap[gb343]? = some (.cells #[.int .i64 x344000_1, .int .i64 x344001_1, .int .u8 x344002_1] 33 (0, 0))) ∧ Aside0 (Below w.heap.size w w'))
 case atStart => exact ⟨(0), (0), (0), (0), (by first | rfl | (simp; done) | (simp [*]; done)), H', ⟨Nat.le_refl _⟩, ⟨bq_ BK343⟩, ⟨bh_ HB⟩⟩
 case round =>
  clear H'
  (try clear p2); obtain ⟨x8_1, x344000_1, x344001_1, x344002_1, rfl, HA, HK1, BK343, HB⟩ := hrel
  cases gk with
  | zero => exact absurd HA.out (by simp [salvorref16_First.l0])
  | succ k1 =>
   have H := HA.out; clear HA; simp only [salvorref16_First.l0] at H; have HC5 := Aside0.mk H; clear H
   go_upto_region 2 with (fail)
   repeat (go_quiet (fail); go_upto_region 2 with (fail))
   go_cut [18] (fun v18 wc => ∃ (kq : Nat) (x18_4 : Bool), v18 = .bool x18_4 ∧ Aside0 (salvorref16_First.j1 kq l0 a1 a2 x8_1 x18_4 = some (r1, r2, r3, r4)) ∧ Aside0 (kq ≤ k1) ∧ Aside0 (wc.heap[gb343]? = some (.cells #[.int .i64 x344000_1, .int .i64 x344001_1, .int .u8 x344002_1] 33 (0, 0))) ∧ Aside0 (Below w.heap.size w wc))
   case first =>
    have H := HC5.out; clear HC5
    by_cases c6 : x8_1 < (l0.length : Int)
    ·rw [if_pos c6] at H
     have c6b0 : decide (x8_1 < (l0.length : Int)) = true := decide_eq_true c6
     clear c6
     (first | rw [c6b0] | (simp only [i64_w, i32_w]; rw [c6b0]) | skip)
     replace H := Option.bind_eq_some_iff.mp H; obtain ⟨t344, A70, H⟩ := H
     replace H : (salvorref16_First.j1 k1 l0 a1 a2 x8_1 t344) = some (r1, r2, r3, r4) := H
     have A7 := Aside0.mk A70; clear A70
     have H' := Aside0.mk H
     clear H
     go_wp2_with (first | (go_at_call 59; (with_reducible refine (salvorref16_MayRegions.calls k1 _ _ l0 t344 _ ?side1 ?side2 A7.out).mono ?_); (case side1 => exact cb_ HR0 HB); (case side2 => exact HC0.out); rintro e w8 ⟨rfl, hb⟩; replace BK343 := bb_ BK343 hb; replace HB := bs_ HB hb; (try clear hb)))
     repeat (go_quiet (first | (go_at_call 59; (with_reducible refine (salvorref16_MayRegions.calls k1 _ _ l0 t344 _ ?side1 ?side2 A7.out).mono ?_); (case side1 => exact cb_ HR0 HB); (case side2 => exact HC0.out); rintro e w8 ⟨rfl, hb⟩; replace BK343 := bb_ BK343 hb; replace HB := bs_ HB hb; (try clear hb))); try go_wp2_with (first | (go_at_call 59; (with_reducible refine (salvorref16_MayRegions.calls k1 _ _ l0 t344 _ ?side1 ?side2 A7.out).mono ?_); (case side1 => exact cb_ HR0 HB); (case side2 => exact HC0.out); rintro e w8 ⟨rfl, hb⟩; replace BK343 := bb_ BK343 hb; replace HB := bs_ HB hb; (try clear hb))))
     go_meet
     case rel => exact ⟨_, (t344), (by first | rfl | (simp; done) | (simp [*]; done)), H', ⟨by have := HK1.out; first | omega | exact Nat.le_refl _⟩, ⟨bq_ BK343⟩, ⟨bh_ HB⟩⟩
    ·rw [if_neg c6] at H
     have c6b0 : decide (x8_1 < (l0.length : Int)) = false := decide_eq_false c6
     clear c6
     (first | rw [c6b0] | (simp only [i64_w, i32_w]; rw [c6b0]) | skip)
     have H' := Aside0.mk H
     clear H; go_wp2
     repeat (go_quiet (fail); try go_wp2)
     go_meet
     case rel => exact ⟨_, (false), (by first | rfl | (simp; done) | (simp [*]; done)), H', ⟨by have := HK1.out; first | omega | exact Nat.le_refl _⟩, ⟨bq_ BK343⟩, ⟨bh_ HB⟩⟩
   case rest =>
    clear HC5; (try clear p2); (try clear c6); (try clear c6b0); (try clear p2); obtain ⟨kq, x18_4, rfl, HA, HJ4, BK343, HB⟩ := hcut
    cases kq with
    | zero => exact absurd HA.out (by simp [salvorref16_First.j1])
    | succ kj4 =>
     have H := HA.out; clear HA; simp only [salvorref16_First.j1] at H
     by_cases c9 : x18_4 = true
     ·subst c9
      have H1 : (if 0 ≤ x8_1 then (if x8_1 < (l0.length : Int) then (if ((rd_T33 l0 x8_1).f2) = a1 then (if (mx ((rd_T33 l0 x8_1).f0) a2) < (wrap64 (((rd_T33 l0 x8_1).f0) + ((rd_T33 l0 x8_1).f1))) then (some (mx ((rd_T33 l0 x8_1).f0) a2, wrap64 ((wrap64 (((rd_T33 l0 x8_1).f0) + ((rd_T33 l0 x8_1).f1))) - (mx ((rd_T33 l0 x8_1).f0) a2)), a1, true)) else (salvorref16_First.l0 kj4 l0 a1 a2 (wrap64 (x8_1 + 1)))) else (salvorref16_First.l0 kj4 l0 a1 a2 (wrap64 (x8_1 + 1)))) else (none)) else (none)) = some (r1, r2, r3, r4) := by rw [if_pos rfl] at H; exact H
      clear H; have H := H1; clear H1
      by_cases c10 : 0 ≤ x8_1
      ·rw [if_pos c10] at H
       have c10b0 : decide (0 ≤ x8_1) = true := decide_eq_true c10
       clear c10
       by_cases c11 : x8_1 < (l0.length : Int)
       ·rw [if_pos c11] at H
        have c11b0 : decide (x8_1 < (l0.length : Int)) = true := decide_eq_true c11
        clear c11
        obtain ⟨ji12, hji12⟩ : ∃ j_ : Int, (mx ((rd_T33 l0 x8_1).f0) a2) = j_ := ⟨_, rfl⟩
        replace H : (if ((rd_T33 l0 x8_1).f2) = a1 then (if (ji12) < (wrap64 (((rd_T33 l0 x8_1).f0) + ((rd_T33 l0 x8_1).f1))) then (some (ji12, wrap64 ((wrap64 (((rd_T33 l0 x8_1).f0) + ((rd_T33 l0 x8_1).f1))) - (ji12)), a1, true)) else (salvorref16_First.l0 kj4 l0 a1 a2 (wrap64 (x8_1 + 1)))) else (salvorref16_First.l0 kj4 l0 a1 a2 (wrap64 (x8_1 + 1)))) = some (r1, r2, r3, r4) := by first | (rw [hji12] at H; exact H) | (simp only [hji12] at H ⊢; exact H)
        have hji12_ : (if ((rd_T33 l0 x8_1).f0) < a2 then a2 else ((rd_T33 l0 x8_1).f0)) = ji12 := hji12
        by_cases c13 : ((rd_T33 l0 x8_1).f2) = a1
        ·rw [if_pos c13] at H
         have c13b0 : (((rd_T33 l0 x8_1).f2) == a1) = true := beq_iff_eq.mpr c13
         have c13b1 : (((rd_T33 l0 x8_1).f2) != a1) = false := bne_eq_false_iff_eq.mpr c13
         clear c13
         by_cases c14 : (ji12) < (wrap64 (((rd_T33 l0 x8_1).f0) + ((rd_T33 l0 x8_1).f1)))
         ·rw [if_pos c14] at H
          have c14b0 : decide ((ji12) < (wrap64 (((rd_T33 l0 x8_1).f0) + ((rd_T33 l0 x8_1).f1)))) = true := decide_eq_true c14
          clear c14; simp only [Option.some.injEq, Prod.mk.injEq] at H; obtain ⟨rfl, rfl, rfl, rfl⟩ := H
          have p345 : 0 ≤ (x8_1 : Int) := of_decide_eq_true (by first | (with_reducible assumption) | assumption)
          have q345 : x8_1 < (l0.length : Int) := of_decide_eq_true (by first | (with_reducible assumption) | assumption)
          obtain ⟨ad345, e345, hx345_0, hx345_1, hx345_2⟩ := at_T33 HR0.out x8_1 p345 q345; cases e345
          replace hx345_0 := (HB.out.cell (World.block_lt_of_cell? w _ hx345_0)).trans hx345_0
          replace hx345_1 := (HB.out.cell (World.block_lt_of_cell? w _ hx345_1)).trans hx345_1
          replace hx345_2 := (HB.out.cell (World.block_lt_of_cell? w _ hx345_2)).trans hx345_2
          replace p345 := eq_true p345; replace q345 := eq_true q345
          have p346 : 0 ≤ (x8_1 : Int) := of_decide_eq_true (by first | (with_reducible assumption) | assumption)
          have q346 : x8_1 < (l0.length : Int) := of_decide_eq_true (by first | (with_reducible assumption) | assumption)
          obtain ⟨ad346, e346, hx346_0, hx346_1, hx346_2⟩ := at_T33 HR0.out x8_1 p346 q346
          obtain rfl : ad345 = ad346 := (by injection e346)
          replace hx346_0 := (HB.out.cell (World.block_lt_of_cell? w _ hx346_0)).trans hx346_0
          replace hx346_1 := (HB.out.cell (World.block_lt_of_cell? w _ hx346_1)).trans hx346_1
          replace hx346_2 := (HB.out.cell (World.block_lt_of_cell? w _ hx346_2)).trans hx346_2
          replace p346 := eq_true p346; replace q346 := eq_true q346
          have p347 : 0 ≤ (x8_1 : Int) := of_decide_eq_true (by first | (with_reducible assumption) | assumption)
          have q347 : x8_1 < (l0.length : Int) := of_decide_eq_true (by first | (with_reducible assumption) | assumption)
          obtain ⟨ad347, e347, hx347_0, hx347_1, hx347_2⟩ := at_T33 HR0.out x8_1 p347 q347
          obtain rfl : ad345 = ad347 := (by injection e347)
          replace hx347_0 := (HB.out.cell (World.block_lt_of_cell? w _ hx347_0)).trans hx347_0
          replace hx347_1 := (HB.out.cell (World.block_lt_of_cell? w _ hx347_1)).trans hx347_1
          replace hx347_2 := (HB.out.cell (World.block_lt_of_cell? w _ hx347_2)).trans hx347_2
          replace p347 := eq_true p347; replace q347 := eq_true q347
          have p348 : 0 ≤ (x8_1 : Int) := of_decide_eq_true (by first | (with_reducible assumption) | assumption)
          have q348 : x8_1 < (l0.length : Int) := of_decide_eq_true (by first | (with_reducible assumption) | assumption)
          obtain ⟨ad348, e348, hx348_0, hx348_1, hx348_2⟩ := at_T33 HR0.out x8_1 p348 q348
          obtain rfl : ad345 = ad348 := (by injection e348)
          replace hx348_0 := (HB.out.cell (World.block_lt_of_cell? w _ hx348_0)).trans hx348_0
          replace hx348_1 := (HB.out.cell (World.block_lt_of_cell? w _ hx348_1)).trans hx348_1
          replace hx348_2 := (HB.out.cell (World.block_lt_of_cell? w _ hx348_2)).trans hx348_2
          replace p348 := eq_true p348; replace q348 := eq_true q348; obtain ⟨hcz15_0, hcz15_1, hcz15_2, hfz15_0, hfz15_1, hfz15_2⟩ := c3_ BK343; go_wp2
          repeat (go_quiet (fail); try go_wp2)
          refine bodyPost_ret (results_ct rfl _ _ gb343 33 #[.int .i64 ji12, .int .i64 (wrap64 ((wrap64 (((rd_T33 l0 x8_1).f0) + ((rd_T33 l0 x8_1).f1))) - (ji12))), .int .u8 a1] (0, 0) _ rfl (bp_ BK343) Try.underlying33 rfl (by kernel_rfl)) rfl ?_
          exact ⟨by first | rfl | (simp [errW_none, errW_some] <;> rfl) | (simp only [← hji12]; first | rfl | (simp [errW_none, errW_some] <;> rfl)) | (simp [*, errW_none, errW_some] <;> rfl), bh_ HB⟩
         ·rw [if_neg c14] at H
          have c14b0 : decide ((ji12) < (wrap64 (((rd_T33 l0 x8_1).f0) + ((rd_T33 l0 x8_1).f1)))) = false := decide_eq_false c14
          clear c14
          have H' := Aside0.mk H
          clear H
          have p345 : 0 ≤ (x8_1 : Int) := of_decide_eq_true (by first | (with_reducible assumption) | assumption)
          have q345 : x8_1 < (l0.length : Int) := of_decide_eq_true (by first | (with_reducible assumption) | assumption)
          obtain ⟨ad345, e345, hx345_0, hx345_1, hx345_2⟩ := at_T33 HR0.out x8_1 p345 q345; cases e345
          replace hx345_0 := (HB.out.cell (World.block_lt_of_cell? w _ hx345_0)).trans hx345_0
          replace hx345_1 := (HB.out.cell (World.block_lt_of_cell? w _ hx345_1)).trans hx345_1
          replace hx345_2 := (HB.out.cell (World.block_lt_of_cell? w _ hx345_2)).trans hx345_2
          replace p345 := eq_true p345; replace q345 := eq_true q345
          have p346 : 0 ≤ (x8_1 : Int) := of_decide_eq_true (by first | (with_reducible assumption) | assumption)
          have q346 : x8_1 < (l0.length : Int) := of_decide_eq_true (by first | (with_reducible assumption) | assumption)
          obtain ⟨ad346, e346, hx346_0, hx346_1, hx346_2⟩ := at_T33 HR0.out x8_1 p346 q346
          obtain rfl : ad345 = ad346 := (by injection e346)
          replace hx346_0 := (HB.out.cell (World.block_lt_of_cell? w _ hx346_0)).trans hx346_0
          replace hx346_1 := (HB.out.cell (World.block_lt_of_cell? w _ hx346_1)).trans hx346_1
          replace hx346_2 := (HB.out.cell (World.block_lt_of_cell? w _ hx346_2)).trans hx346_2
          replace p346 := eq_true p346; replace q346 := eq_true q346
          have p347 : 0 ≤ (x8_1 : Int) := of_decide_eq_true (by first | (with_reducible assumption) | assumption)
          have q347 : x8_1 < (l0.length : Int) := of_decide_eq_true (by first | (with_reducible assumption) | assumption)
          obtain ⟨ad347, e347, hx347_0, hx347_1, hx347_2⟩ := at_T33 HR0.out x8_1 p347 q347
          obtain rfl : ad345 = ad347 := (by injection e347)
          replace hx347_0 := (HB.out.cell (World.block_lt_of_cell? w _ hx347_0)).trans hx347_0
          replace hx347_1 := (HB.out.cell (World.block_lt_of_cell? w _ hx347_1)).trans hx347_1
          replace hx347_2 := (HB.out.cell (World.block_lt_of_cell? w _ hx347_2)).trans hx347_2
          replace p347 := eq_true p347; replace q347 := eq_true q347
          have p348 : 0 ≤ (x8_1 : Int) := of_decide_eq_true (by first | (with_reducible assumption) | assumption)
          have q348 : x8_1 < (l0.length : Int) := of_decide_eq_true (by first | (with_reducible assumption) | assumption)
          obtain ⟨ad348, e348, hx348_0, hx348_1, hx348_2⟩ := at_T33 HR0.out x8_1 p348 q348
          obtain rfl : ad345 = ad348 := (by injection e348)
          replace hx348_0 := (HB.out.cell (World.block_lt_of_cell? w _ hx348_0)).trans hx348_0
          replace hx348_1 := (HB.out.cell (World.block_lt_of_cell? w _ hx348_1)).trans hx348_1
          replace hx348_2 := (HB.out.cell (World.block_lt_of_cell? w _ hx348_2)).trans hx348_2
          replace p348 := eq_true p348; replace q348 := eq_true q348; go_wp2
          repeat (go_quiet (fail); try go_wp2)
          go_roundg kj4
          case measure => have := HK1.out; have := HJ4.out; omega
          case rel => exact ⟨(wrap64 (x8_1 + 1)), (x344000_1), (x344001_1), (x344002_1), (by first | rfl | (simp; done) | (simp [*]; done)), H', ⟨by have := HK1.out; have := HJ4.out; omega⟩, ⟨bq_ BK343⟩, ⟨bh_ HB⟩⟩
        ·rw [if_neg c13] at H
         have c13b0 : (((rd_T33 l0 x8_1).f2) == a1) = false := beq_eq_false_iff_ne.mpr c13
         have c13b1 : (((rd_T33 l0 x8_1).f2) != a1) = true := bne_iff_ne.mpr c13
         have H' := Aside0.mk H
         clear H
         have p345 : 0 ≤ (x8_1 : Int) := of_decide_eq_true (by first | (with_reducible assumption) | assumption)
         have q345 : x8_1 < (l0.length : Int) := of_decide_eq_true (by first | (with_reducible assumption) | assumption)
         obtain ⟨ad345, e345, hx345_0, hx345_1, hx345_2⟩ := at_T33 HR0.out x8_1 p345 q345; cases e345
         replace hx345_0 := (HB.out.cell (World.block_lt_of_cell? w _ hx345_0)).trans hx345_0
         replace hx345_1 := (HB.out.cell (World.block_lt_of_cell? w _ hx345_1)).trans hx345_1
         replace hx345_2 := (HB.out.cell (World.block_lt_of_cell? w _ hx345_2)).trans hx345_2
         replace p345 := eq_true p345; replace q345 := eq_true q345
         have p346 : 0 ≤ (x8_1 : Int) := of_decide_eq_true (by first | (with_reducible assumption) | assumption)
         have q346 : x8_1 < (l0.length : Int) := of_decide_eq_true (by first | (with_reducible assumption) | assumption)
         obtain ⟨ad346, e346, hx346_0, hx346_1, hx346_2⟩ := at_T33 HR0.out x8_1 p346 q346
         obtain rfl : ad345 = ad346 := (by injection e346)
         replace hx346_0 := (HB.out.cell (World.block_lt_of_cell? w _ hx346_0)).trans hx346_0
         replace hx346_1 := (HB.out.cell (World.block_lt_of_cell? w _ hx346_1)).trans hx346_1
         replace hx346_2 := (HB.out.cell (World.block_lt_of_cell? w _ hx346_2)).trans hx346_2
         replace p346 := eq_true p346; replace q346 := eq_true q346
         have p347 : 0 ≤ (x8_1 : Int) := of_decide_eq_true (by first | (with_reducible assumption) | assumption)
         have q347 : x8_1 < (l0.length : Int) := of_decide_eq_true (by first | (with_reducible assumption) | assumption)
         obtain ⟨ad347, e347, hx347_0, hx347_1, hx347_2⟩ := at_T33 HR0.out x8_1 p347 q347
         obtain rfl : ad345 = ad347 := (by injection e347)
         replace hx347_0 := (HB.out.cell (World.block_lt_of_cell? w _ hx347_0)).trans hx347_0
         replace hx347_1 := (HB.out.cell (World.block_lt_of_cell? w _ hx347_1)).trans hx347_1
         replace hx347_2 := (HB.out.cell (World.block_lt_of_cell? w _ hx347_2)).trans hx347_2
         replace p347 := eq_true p347; replace q347 := eq_true q347
         have p348 : 0 ≤ (x8_1 : Int) := of_decide_eq_true (by first | (with_reducible assumption) | assumption)
         have q348 : x8_1 < (l0.length : Int) := of_decide_eq_true (by first | (with_reducible assumption) | assumption)
         obtain ⟨ad348, e348, hx348_0, hx348_1, hx348_2⟩ := at_T33 HR0.out x8_1 p348 q348
         obtain rfl : ad345 = ad348 := (by injection e348)
         replace hx348_0 := (HB.out.cell (World.block_lt_of_cell? w _ hx348_0)).trans hx348_0
         replace hx348_1 := (HB.out.cell (World.block_lt_of_cell? w _ hx348_1)).trans hx348_1
         replace hx348_2 := (HB.out.cell (World.block_lt_of_cell? w _ hx348_2)).trans hx348_2
         replace p348 := eq_true p348; replace q348 := eq_true q348; go_wp2
         repeat (go_quiet (fail); try go_wp2)
         go_roundg kj4
         case measure => have := HK1.out; have := HJ4.out; omega
         case rel => exact ⟨(wrap64 (x8_1 + 1)), (x344000_1), (x344001_1), (x344002_1), (by first | rfl | (simp; done) | (simp [*]; done)), H', ⟨by have := HK1.out; have := HJ4.out; omega⟩, ⟨bq_ BK343⟩, ⟨bh_ HB⟩⟩
       ·rw [if_neg c11] at H
        exact absurd H (by simp)
      ·rw [if_neg c10] at H
       exact absurd H (by simp)
     ·replace c9 := Bool.eq_false_iff.mpr c9
      subst c9
      have H1 : (some (0, 0, 0, false)) = some (r1, r2, r3, r4) := by rw [if_neg (show ¬ (false = true) by decide)] at H; exact H
      clear H; have H := H1; clear H1; simp only [Option.some.injEq, Prod.mk.injEq] at H; obtain ⟨rfl, rfl, rfl, rfl⟩ := H; obtain ⟨hcz16_0, hcz16_1, hcz16_2, hfz16_0, hfz16_1, hfz16_2⟩ := c3_ BK343; go_wp2
      repeat (go_quiet (fail); try go_wp2)
      refine bodyPost_ret (results_ct rfl _ _ gb343 33 #[.int .i64 0, .int .i64 0, .int .u8 0] (0, 0) _ rfl (bp_ BK343) Try.underlying33 rfl (by kernel_rfl)) rfl ?_
      exact ⟨by first | rfl | (simp [errW_none, errW_some] <;> rfl) | (simp [*, errW_none, errW_some] <;> rfl), bh_ HB⟩

end Go.Proofs.Ytnoilinjlelpaaa.P
