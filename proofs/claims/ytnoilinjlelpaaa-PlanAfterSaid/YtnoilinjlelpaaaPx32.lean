/- Laid by a program of this session's own (wip/wprint.py, over the kit's print.py): functions of the given program as plain Lean functions, and that the program's calls come to their answers. -/
import Derived.Test.YtnoilinjlelpaaaPx0
import Derived.Test.YtnoilinjlelpaaaPx22
namespace Go.Proofs.Ytnoilinjlelpaaa.P
open Go.RowKit Go.Proofs.YtnoilinjlelpaaaW.PrintWords Go.Proofs.YtnoilinjlelpaaaW.PrintLast Go.Proofs.YtnoilinjlelpaaaW.PrintMore
attribute [local go_sem] max2_int min2_int max_two min_two max_three min_three max_four min_four   -- for this text's walks alone
set_option linter.unusedVariables false
set_option linter.unusedSimpArgs false

/-! ### salvorref16_At: function 43 -/
mutual
def salvorref16_At.l0 : Nat → List (S33) → Int → Int → Option (Int × Int × Int × Bool)
 | 0, _, _, _ => none
 | k + 1, x0, x1, x6 => if x6 < (x0.length : Int) then ((salvorref16_MayRegions.f k x0).bind fun t441 => (salvorref16_At.j1 k x0 x1 x6 t441)) else (salvorref16_At.j1 k x0 x1 x6 false)
def salvorref16_At.j1 : Nat → List (S33) → Int → Int → Bool → Option (Int × Int × Int × Bool)
 | 0, _, _, _, _ => none
 | k + 1, x0, x1, x6, x14 => if x14 = true then (if 0 ≤ x6 then (if x6 < (x0.length : Int) then (if x1 ≥ ((rd_T33 x0 x6).f0) then (if x1 < (wrap64 (((rd_T33 x0 x6).f0) + ((rd_T33 x0 x6).f1))) then (some ((rd_T33 x0 x6).f0, (rd_T33 x0 x6).f1, (rd_T33 x0 x6).f2, true)) else (salvorref16_At.l0 k x0 x1 (wrap64 (x6 + 1)))) else (salvorref16_At.l0 k x0 x1 (wrap64 (x6 + 1)))) else (none)) else (none)) else (some (0, 0, 0, false))
end
def salvorref16_At.f (k : Nat) (l0 : List (S33)) (a1 : Int) : Option (Int × Int × Int × Bool) := salvorref16_At.l0 k l0 a1 0
theorem salvorref16_At.mono_l : ∀ k, (∀ y0 y1 y2, LeO (salvorref16_At.l0 k y0 y1 y2) (salvorref16_At.l0 (k + 1) y0 y1 y2)) ∧ (∀ y0 y1 y2 y3, LeO (salvorref16_At.j1 k y0 y1 y2 y3) (salvorref16_At.j1 (k + 1) y0 y1 y2 y3))
 | 0 => ⟨fun _ _ _ r h => by simp [salvorref16_At.l0] at h, fun _ _ _ _ r h => by simp [salvorref16_At.j1] at h⟩
 | k + 1 => by
  obtain ⟨ih0, ih1⟩ := salvorref16_At.mono_l k
  refine ⟨?_, ?_⟩
  all_goals intros
  all_goals first | unfold salvorref16_At.l0 | unfold salvorref16_At.j1
  all_goals repeat' first | (with_reducible exact ih0 _ _ _) | (with_reducible exact ih1 _ _ _ _) | (with_reducible exact salvorref16_MayRegions.mono _ _) | (with_reducible exact LeO.refl _) | (with_reducible exact LeO.none _) | (with_reducible refine LeO.ite ?_ ?_) | (with_reducible refine LeO.bind ?_ (fun _ => ?_)) | exact ih0 _ _ _ | exact ih1 _ _ _ _ | exact salvorref16_MayRegions.mono _ _ | exact LeO.none _ | refine LeO.ite ?_ ?_ | refine LeO.bind ?_ (fun _ => ?_)
theorem salvorref16_At.mono : ∀ a0 a1 k, LeO (salvorref16_At.f k a0 a1) (salvorref16_At.f (k + 1) a0 a1) := by
 intro a0 a1 k
 obtain ⟨ih0, ih1⟩ := salvorref16_At.mono_l k
 unfold salvorref16_At.f
 repeat' first
   | (with_reducible exact ih0 _ _ _)
   | (with_reducible exact ih1 _ _ _ _)
   | (with_reducible exact salvorref16_MayRegions.mono _ _)
   | (with_reducible exact LeO.refl _)
   | (with_reducible exact LeO.none _)
   | (with_reducible refine LeO.ite ?_ ?_)
   | (with_reducible refine LeO.bind ?_ (fun _ => ?_))
   | exact ih0 _ _ _
   | exact ih1 _ _ _ _
   | exact salvorref16_MayRegions.mono _ _
   | exact LeO.none _
   | refine LeO.ite ?_ ?_
   | refine LeO.bind ?_ (fun _ => ?_)
set_option maxHeartbeats 8000000 in
set_option maxRecDepth 100000 in
theorem salvorref16_At.calls (k : Nat) (A0 : Option Addr) (c0 : Nat) (l0 : List (S33)) (a1 : Int) (r1 : Int) (r2 : Int) (r3 : Int) (r4 : Bool) (w : World) (hr0 : Kd.C k33 w A0 l0.length l0) (hc0 : l0.length ≤ c0) (h : salvorref16_At.f k l0 a1 = some (r1, r2, r3, r4)) :
  Calls Try.prog 43 #[.slice A0 l0.length c0, .int .i64 a1] w fun e w' => e = .returned (.tuple #[.agg #[.int .i64 r1, .int .i64 r2, .int .u8 r3], .bool r4]) ∧ Below w.heap.size w w' := by
 have hu33 := Try.underlying33; have HR0 := Aside0.mk hr0; have HC0 := Aside0.mk hc0; clear hr0 hc0
 have HB := Aside0.mk (Below.refl w.heap.size w)
 have H : (salvorref16_At.l0 k l0 a1 0) = some (r1, r2, r3, r4) := h
 clear h
 have H' := Aside0.mk H
 clear H
 go_enter Try.func43, Try.ntmps43
 go_wp2_with (first | ((with_reducible refine gate_dst (N := 4) rfl ?_); refine box_e 4 #[.int .i64 0, .int .i64 0, .int .u8 0] 33 ?_; intro gb440 hg w3 hbox hb; have BK440 := Aside0.mk hbox; have GW440 := bg_ HB hg; have GE440 := bg_ HB hg; replace HB := bs_ HB hb; clear hb hbox hg))
 repeat (go_quiet (first | ((with_reducible refine gate_dst (N := 4) rfl ?_); refine box_e 4 #[.int .i64 0, .int .i64 0, .int .u8 0] 33 ?_; intro gb440 hg w3 hbox hb; have BK440 := Aside0.mk hbox; have GW440 := bg_ HB hg; have GE440 := bg_ HB hg; replace HB := bs_ HB hb; clear hb hbox hg)); try go_wp2_with (first | ((with_reducible refine gate_dst (N := 4) rfl ?_); refine box_e 4 #[.int .i64 0, .int .i64 0, .int .u8 0] 33 ?_; intro gb440 hg w3 hbox hb; have BK440 := Aside0.mk hbox; have GW440 := bg_ HB hg; have GE440 := bg_ HB hg; replace HB := bs_ HB hb; clear hb hbox hg)))
 go_loopg [6] k (fun kq v6 w' => ∃ (x6_1 : Int) (x441000_1 : Int) (x441001_1 : Int) (x441002_1 : Int), v6 = .int .i64 x6_1 ∧ Aside0 (salvorref16_At.l0 kq l0 a1 x6_1 = some (r1, r2, r3, r4)) ∧ Aside0 (kq ≤ k) ∧ Aside0 (w'.heap[gb440]? = some (.cells #[.int .i64 x441000_1, .int .i64 x441001_1, .int .u8 x441002_1] 33 (0, 0))) ∧ Aside0 (Below w.heap.size w w'))
 case atStart => exact ⟨(0), (0), (0), (0), (by first | rfl | (simp; done) | (simp [*]; done)), H', ⟨Nat.le_refl _⟩, ⟨bq_ BK440⟩, ⟨bh_ HB⟩⟩
 case round =>
  clear H'
  (try clear p2); obtain ⟨x6_1, x441000_1, x441001_1, x441002_1, rfl, HA, HK1, BK440, HB⟩ := hrel
  cases gk with
  | zero => exact absurd HA.out (by simp [salvorref16_At.l0])
  | succ k1 =>
   have H := HA.out; clear HA; simp only [salvorref16_At.l0] at H; have HC4 := Aside0.mk H; clear H
   go_upto_region 2 with (fail)
   repeat (go_quiet (fail); go_upto_region 2 with (fail))
   go_cut [14] (fun v14 wc => ∃ (kq : Nat) (x14_3 : Bool), v14 = .bool x14_3 ∧ Aside0 (salvorref16_At.j1 kq l0 a1 x6_1 x14_3 = some (r1, r2, r3, r4)) ∧ Aside0 (kq ≤ k1) ∧ Aside0 (wc.heap[gb440]? = some (.cells #[.int .i64 x441000_1, .int .i64 x441001_1, .int .u8 x441002_1] 33 (0, 0))) ∧ Aside0 (Below w.heap.size w wc))
   case first =>
    have H := HC4.out; clear HC4
    by_cases c5 : x6_1 < (l0.length : Int)
    ·rw [if_pos c5] at H
     have c5b0 : decide (x6_1 < (l0.length : Int)) = true := decide_eq_true c5
     clear c5
     (first | rw [c5b0] | (simp only [i64_w, i32_w]; rw [c5b0]) | skip)
     replace H := Option.bind_eq_some_iff.mp H; obtain ⟨t441, A60, H⟩ := H
     replace H : (salvorref16_At.j1 k1 l0 a1 x6_1 t441) = some (r1, r2, r3, r4) := H
     have A6 := Aside0.mk A60; clear A60
     have H' := Aside0.mk H
     clear H
     go_wp2_with (first | (go_at_call 59; (with_reducible refine (salvorref16_MayRegions.calls k1 _ _ l0 t441 _ ?side1 ?side2 A6.out).mono ?_); (case side1 => exact cb_ HR0 HB); (case side2 => exact HC0.out); rintro e w7 ⟨rfl, hb⟩; replace BK440 := bb_ BK440 hb; replace HB := bs_ HB hb; (try clear hb)))
     repeat (go_quiet (first | (go_at_call 59; (with_reducible refine (salvorref16_MayRegions.calls k1 _ _ l0 t441 _ ?side1 ?side2 A6.out).mono ?_); (case side1 => exact cb_ HR0 HB); (case side2 => exact HC0.out); rintro e w7 ⟨rfl, hb⟩; replace BK440 := bb_ BK440 hb; replace HB := bs_ HB hb; (try clear hb))); try go_wp2_with (first | (go_at_call 59; (with_reducible refine (salvorref16_MayRegions.calls k1 _ _ l0 t441 _ ?side1 ?side2 A6.out).mono ?_); (case side1 => exact cb_ HR0 HB); (case side2 => exact HC0.out); rintro e w7 ⟨rfl, hb⟩; replace BK440 := bb_ BK440 hb; replace HB := bs_ HB hb; (try clear hb))))
     go_meet
     case rel => exact ⟨_, (t441), (by first | rfl | (simp; done) | (simp [*]; done)), H', ⟨by have := HK1.out; first | omega | exact Nat.le_refl _⟩, ⟨bq_ BK440⟩, ⟨bh_ HB⟩⟩
    ·rw [if_neg c5] at H
     have c5b0 : decide (x6_1 < (l0.length : Int)) = false := decide_eq_false c5
     clear c5
     (first | rw [c5b0] | (simp only [i64_w, i32_w]; rw [c5b0]) | skip)
     have H' := Aside0.mk H
     clear H; go_wp2
     repeat (go_quiet (fail); try go_wp2)
     go_meet
     case rel => exact ⟨_, (false), (by first | rfl | (simp; done) | (simp [*]; done)), H', ⟨by have := HK1.out; first | omega | exact Nat.le_refl _⟩, ⟨bq_ BK440⟩, ⟨bh_ HB⟩⟩
   case rest =>
    clear HC4; (try clear p2); (try clear c4); (try clear c5); (try clear c5b0); (try clear p2); obtain ⟨kq, x14_3, rfl, HA, HJ3, BK440, HB⟩ := hcut
    cases kq with
    | zero => exact absurd HA.out (by simp [salvorref16_At.j1])
    | succ kj3 =>
     have H := HA.out; clear HA; simp only [salvorref16_At.j1] at H
     by_cases c8 : x14_3 = true
     ·subst c8
      have H1 : (if 0 ≤ x6_1 then (if x6_1 < (l0.length : Int) then (if a1 ≥ ((rd_T33 l0 x6_1).f0) then (if a1 < (wrap64 (((rd_T33 l0 x6_1).f0) + ((rd_T33 l0 x6_1).f1))) then (some ((rd_T33 l0 x6_1).f0, (rd_T33 l0 x6_1).f1, (rd_T33 l0 x6_1).f2, true)) else (salvorref16_At.l0 kj3 l0 a1 (wrap64 (x6_1 + 1)))) else (salvorref16_At.l0 kj3 l0 a1 (wrap64 (x6_1 + 1)))) else (none)) else (none)) = some (r1, r2, r3, r4) := by rw [if_pos rfl] at H; exact H
      clear H; have H := H1; clear H1
      by_cases c9 : 0 ≤ x6_1
      ·rw [if_pos c9] at H
       have c9b0 : decide (0 ≤ x6_1) = true := decide_eq_true c9
       clear c9
       by_cases c10 : x6_1 < (l0.length : Int)
       ·rw [if_pos c10] at H
        have c10b0 : decide (x6_1 < (l0.length : Int)) = true := decide_eq_true c10
        clear c10
        by_cases c11 : a1 ≥ ((rd_T33 l0 x6_1).f0)
        ·rw [if_pos c11] at H
         have c11b0 : decide (((rd_T33 l0 x6_1).f0) ≤ a1) = true := decide_eq_true c11
         clear c11
         by_cases c12 : a1 < (wrap64 (((rd_T33 l0 x6_1).f0) + ((rd_T33 l0 x6_1).f1)))
         ·rw [if_pos c12] at H
          have c12b0 : decide (a1 < (wrap64 (((rd_T33 l0 x6_1).f0) + ((rd_T33 l0 x6_1).f1)))) = true := decide_eq_true c12
          clear c12; simp only [Option.some.injEq, Prod.mk.injEq] at H; obtain ⟨rfl, rfl, rfl, rfl⟩ := H
          have p442 : 0 ≤ (x6_1 : Int) := of_decide_eq_true (by first | (with_reducible assumption) | assumption)
          have q442 : x6_1 < (l0.length : Int) := of_decide_eq_true (by first | (with_reducible assumption) | assumption)
          obtain ⟨ad442, e442, hx442_0, hx442_1, hx442_2⟩ := at_T33 HR0.out x6_1 p442 q442; cases e442
          replace hx442_0 := (HB.out.cell (World.block_lt_of_cell? w _ hx442_0)).trans hx442_0
          replace hx442_1 := (HB.out.cell (World.block_lt_of_cell? w _ hx442_1)).trans hx442_1
          replace hx442_2 := (HB.out.cell (World.block_lt_of_cell? w _ hx442_2)).trans hx442_2
          replace p442 := eq_true p442; replace q442 := eq_true q442
          have p443 : 0 ≤ (x6_1 : Int) := of_decide_eq_true (by first | (with_reducible assumption) | assumption)
          have q443 : x6_1 < (l0.length : Int) := of_decide_eq_true (by first | (with_reducible assumption) | assumption)
          obtain ⟨ad443, e443, hx443_0, hx443_1, hx443_2⟩ := at_T33 HR0.out x6_1 p443 q443
          obtain rfl : ad442 = ad443 := (by injection e443)
          replace hx443_0 := (HB.out.cell (World.block_lt_of_cell? w _ hx443_0)).trans hx443_0
          replace hx443_1 := (HB.out.cell (World.block_lt_of_cell? w _ hx443_1)).trans hx443_1
          replace hx443_2 := (HB.out.cell (World.block_lt_of_cell? w _ hx443_2)).trans hx443_2
          replace p443 := eq_true p443; replace q443 := eq_true q443
          have p444 : 0 ≤ (x6_1 : Int) := of_decide_eq_true (by first | (with_reducible assumption) | assumption)
          have q444 : x6_1 < (l0.length : Int) := of_decide_eq_true (by first | (with_reducible assumption) | assumption)
          obtain ⟨ad444, e444, hx444_0, hx444_1, hx444_2⟩ := at_T33 HR0.out x6_1 p444 q444
          obtain rfl : ad442 = ad444 := (by injection e444)
          replace hx444_0 := (HB.out.cell (World.block_lt_of_cell? w _ hx444_0)).trans hx444_0
          replace hx444_1 := (HB.out.cell (World.block_lt_of_cell? w _ hx444_1)).trans hx444_1
          replace hx444_2 := (HB.out.cell (World.block_lt_of_cell? w _ hx444_2)).trans hx444_2
          replace p444 := eq_true p444; replace q444 := eq_true q444
          have p445 : 0 ≤ (x6_1 : Int) := of_decide_eq_true (by first | (with_reducible assumption) | assumption)
          have q445 : x6_1 < (l0.length : Int) := of_decide_eq_true (by first | (with_reducible assumption) | assumption)
          obtain ⟨ad445, e445, hx445_0, hx445_1, hx445_2⟩ := at_T33 HR0.out x6_1 p445 q445
          obtain rfl : ad442 = ad445 := (by injection e445)
          replace hx445_0 := (HB.out.cell (World.block_lt_of_cell? w _ hx445_0)).trans hx445_0
          replace hx445_1 := (HB.out.cell (World.block_lt_of_cell? w _ hx445_1)).trans hx445_1
          replace hx445_2 := (HB.out.cell (World.block_lt_of_cell? w _ hx445_2)).trans hx445_2
          replace p445 := eq_true p445; replace q445 := eq_true q445; obtain ⟨hcz13_0, hcz13_1, hcz13_2, hfz13_0, hfz13_1, hfz13_2⟩ := c3_ BK440; go_wp2
          repeat (go_quiet (fail); try go_wp2)
          refine bodyPost_ret (results_ct rfl _ _ gb440 33 #[.int .i64 ((rd_T33 l0 x6_1).f0), .int .i64 ((rd_T33 l0 x6_1).f1), .int .u8 ((rd_T33 l0 x6_1).f2)] (0, 0) _ rfl (bp_ BK440) Try.underlying33 rfl (by kernel_rfl)) rfl ?_
          exact ⟨by first | rfl | (simp [errW_none, errW_some] <;> rfl) | (simp [*, errW_none, errW_some] <;> rfl), bh_ HB⟩
         ·rw [if_neg c12] at H
          have c12b0 : decide (a1 < (wrap64 (((rd_T33 l0 x6_1).f0) + ((rd_T33 l0 x6_1).f1)))) = false := decide_eq_false c12
          clear c12
          have H' := Aside0.mk H
          clear H
          have p442 : 0 ≤ (x6_1 : Int) := of_decide_eq_true (by first | (with_reducible assumption) | assumption)
          have q442 : x6_1 < (l0.length : Int) := of_decide_eq_true (by first | (with_reducible assumption) | assumption)
          obtain ⟨ad442, e442, hx442_0, hx442_1, hx442_2⟩ := at_T33 HR0.out x6_1 p442 q442; cases e442
          replace hx442_0 := (HB.out.cell (World.block_lt_of_cell? w _ hx442_0)).trans hx442_0
          replace hx442_1 := (HB.out.cell (World.block_lt_of_cell? w _ hx442_1)).trans hx442_1
          replace hx442_2 := (HB.out.cell (World.block_lt_of_cell? w _ hx442_2)).trans hx442_2
          replace p442 := eq_true p442; replace q442 := eq_true q442
          have p443 : 0 ≤ (x6_1 : Int) := of_decide_eq_true (by first | (with_reducible assumption) | assumption)
          have q443 : x6_1 < (l0.length : Int) := of_decide_eq_true (by first | (with_reducible assumption) | assumption)
          obtain ⟨ad443, e443, hx443_0, hx443_1, hx443_2⟩ := at_T33 HR0.out x6_1 p443 q443
          obtain rfl : ad442 = ad443 := (by injection e443)
          replace hx443_0 := (HB.out.cell (World.block_lt_of_cell? w _ hx443_0)).trans hx443_0
          replace hx443_1 := (HB.out.cell (World.block_lt_of_cell? w _ hx443_1)).trans hx443_1
          replace hx443_2 := (HB.out.cell (World.block_lt_of_cell? w _ hx443_2)).trans hx443_2
          replace p443 := eq_true p443; replace q443 := eq_true q443
          have p444 : 0 ≤ (x6_1 : Int) := of_decide_eq_true (by first | (with_reducible assumption) | assumption)
          have q444 : x6_1 < (l0.length : Int) := of_decide_eq_true (by first | (with_reducible assumption) | assumption)
          obtain ⟨ad444, e444, hx444_0, hx444_1, hx444_2⟩ := at_T33 HR0.out x6_1 p444 q444
          obtain rfl : ad442 = ad444 := (by injection e444)
          replace hx444_0 := (HB.out.cell (World.block_lt_of_cell? w _ hx444_0)).trans hx444_0
          replace hx444_1 := (HB.out.cell (World.block_lt_of_cell? w _ hx444_1)).trans hx444_1
          replace hx444_2 := (HB.out.cell (World.block_lt_of_cell? w _ hx444_2)).trans hx444_2
          replace p444 := eq_true p444; replace q444 := eq_true q444; go_wp2
          repeat (go_quiet (fail); try go_wp2)
          go_roundg kj3
          case measure => have := HK1.out; have := HJ3.out; omega
          case rel => exact ⟨(wrap64 (x6_1 + 1)), (x441000_1), (x441001_1), (x441002_1), (by first | rfl | (simp; done) | (simp [*]; done)), H', ⟨by have := HK1.out; have := HJ3.out; omega⟩, ⟨bq_ BK440⟩, ⟨bh_ HB⟩⟩
        ·rw [if_neg c11] at H
         have c11b0 : decide (((rd_T33 l0 x6_1).f0) ≤ a1) = false := decide_eq_false c11
         clear c11
         have H' := Aside0.mk H
         clear H
         have p442 : 0 ≤ (x6_1 : Int) := of_decide_eq_true (by first | (with_reducible assumption) | assumption)
         have q442 : x6_1 < (l0.length : Int) := of_decide_eq_true (by first | (with_reducible assumption) | assumption)
         obtain ⟨ad442, e442, hx442_0, hx442_1, hx442_2⟩ := at_T33 HR0.out x6_1 p442 q442; cases e442
         replace hx442_0 := (HB.out.cell (World.block_lt_of_cell? w _ hx442_0)).trans hx442_0
         replace hx442_1 := (HB.out.cell (World.block_lt_of_cell? w _ hx442_1)).trans hx442_1
         replace hx442_2 := (HB.out.cell (World.block_lt_of_cell? w _ hx442_2)).trans hx442_2
         replace p442 := eq_true p442; replace q442 := eq_true q442; go_wp2
         repeat (go_quiet (fail); try go_wp2)
         go_roundg kj3
         case measure => have := HK1.out; have := HJ3.out; omega
         case rel => exact ⟨(wrap64 (x6_1 + 1)), (x441000_1), (x441001_1), (x441002_1), (by first | rfl | (simp; done) | (simp [*]; done)), H', ⟨by have := HK1.out; have := HJ3.out; omega⟩, ⟨bq_ BK440⟩, ⟨bh_ HB⟩⟩
       ·rw [if_neg c10] at H
        exact absurd H (by simp)
      ·rw [if_neg c9] at H
       exact absurd H (by simp)
     ·replace c8 := Bool.eq_false_iff.mpr c8
      subst c8
      have H1 : (some (0, 0, 0, false)) = some (r1, r2, r3, r4) := by rw [if_neg (show ¬ (false = true) by decide)] at H; exact H
      clear H; have H := H1; clear H1; simp only [Option.some.injEq, Prod.mk.injEq] at H; obtain ⟨rfl, rfl, rfl, rfl⟩ := H; obtain ⟨hcz14_0, hcz14_1, hcz14_2, hfz14_0, hfz14_1, hfz14_2⟩ := c3_ BK440; go_wp2
      repeat (go_quiet (fail); try go_wp2)
      refine bodyPost_ret (results_ct rfl _ _ gb440 33 #[.int .i64 0, .int .i64 0, .int .u8 0] (0, 0) _ rfl (bp_ BK440) Try.underlying33 rfl (by kernel_rfl)) rfl ?_
      exact ⟨by first | rfl | (simp [errW_none, errW_some] <;> rfl) | (simp [*, errW_none, errW_some] <;> rfl), bh_ HB⟩

end Go.Proofs.Ytnoilinjlelpaaa.P
