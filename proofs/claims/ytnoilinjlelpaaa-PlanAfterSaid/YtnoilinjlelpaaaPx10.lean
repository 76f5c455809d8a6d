/- Laid by a program of this session's own (wip/wprint.py, over the kit's print.py): functions of the given program as plain Lean functions, and that the program's calls come to their answers. -/
import Derived.Test.YtnoilinjlelpaaaPx0
import Derived.Test.YtnoilinjlelpaaaPx7
import Derived.Test.YtnoilinjlelpaaaPx9
namespace Go.Proofs.Ytnoilinjlelpaaa.P
open Go.RowKit Go.Proofs.YtnoilinjlelpaaaW.PrintWords Go.Proofs.YtnoilinjlelpaaaW.PrintLast Go.Proofs.YtnoilinjlelpaaaW.PrintMore
attribute [local go_sem] max2_int min2_int max_two min_two max_three min_three max_four min_four   -- for this text's walks alone
set_option linter.unusedVariables false
set_option linter.unusedSimpArgs false

/-! ### plan_retry: function 58 -/
mutual
def plan_retry.j0 : Nat → Bool → Int → Int → Bool → Int → Int → Int → List (S33) → Option (Int × Int × Int × Bool)
 | 0, _, _, _, _, _, _, _, _ => none
 | k + 1, x5, x142000, x142001, x142002, x143000, x143001, x143002, x143003 => (plan_seek.f k x142000 x142001 x142002 x143000 x143001 x143002 x143003 45 x143000).bind fun bt144 => (if bt144.2.2.2 = true then (plan_retry.j1 k x5 bt144.2.2.2 false x142000 x142001 x142002 x143000 x143001 x143002 x143003 bt144.1 bt144.2.1 bt144.2.2.1) else (plan_retry.j1 k x5 bt144.2.2.2 (decide ((wrap64 (x143001 + 1)) < x142001)) x142000 x142001 x142002 x143000 x143001 x143002 x143003 bt144.1 bt144.2.1 bt144.2.2.1))
def plan_retry.j1 : Nat → Bool → Bool → Bool → Int → Int → Bool → Int → Int → Int → List (S33) → Int → Int → Int → Option (Int × Int × Int × Bool)
 | 0, _, _, _, _, _, _, _, _, _, _, _, _, _ => none
 | k + 1, x5, x7, x33, x142000, x142001, x142002, x143000, x143001, x143002, x143003, x149000, x149001, x149002 => if x33 = true then ((plan_edge.f k x142000 x142001 x142002 x143000 x143001 x143002 x143003).bind fun t149 => ((plan_seek.f k x142000 x142001 x142002 x143000 x143001 x143002 x143003 45 t149).bind fun bt150 => (plan_retry.j2 k bt150.2.2.2 bt150.2.2.2 x142000 x142001 x142002 bt150.1 bt150.2.1 bt150.2.2.1))) else (plan_retry.j2 k x5 x7 x142000 x142001 x142002 x149000 x149001 x149002)
def plan_retry.j2 : Nat → Bool → Bool → Int → Int → Bool → Int → Int → Int → Option (Int × Int × Int × Bool)
 | 0, _, _, _, _, _, _, _, _ => none
 | k + 1, x5, x7, x142000, x142001, x142002, x149000, x149001, x149002 => if x7 = true then (plan_retry.j3 k x5 x142000 x142001 x142002 x149000 x149001 x149002) else (some (0, 0, 0, false))
def plan_retry.j3 : Nat → Bool → Int → Int → Bool → Int → Int → Int → Option (Int × Int × Int × Bool)
 | 0, _, _, _, _, _, _, _ => none
 | k + 1, x5, x142000, x142001, x142002, x149000, x149001, x149002 => (plan_cut.f x142000 x142001 x142002 x149000 x149001 x149002 0).bind fun bt154 => (some (4, bt154.1, bt154.2, x5))
end
def plan_retry.f (k : Nat) (a0_0 : Int) (a0_1 : Int) (a0_2 : Bool) (a1_0 : Int) (a1_1 : Int) (a1_2 : Int) (l1_3 : List (S33)) : Option (Int × Int × Int × Bool) := if a1_1 ≥ a0_1 then (some (0, 0, 0, false)) else (plan_retry.j0 k false a0_0 a0_1 a0_2 a1_0 a1_1 a1_2 l1_3)
theorem plan_retry.mono_l : ∀ k, (∀ y0 y1 y2 y3 y4 y5 y6 y7, LeO (plan_retry.j0 k y0 y1 y2 y3 y4 y5 y6 y7) (plan_retry.j0 (k + 1) y0 y1 y2 y3 y4 y5 y6 y7)) ∧ (∀ y0 y1 y2 y3 y4 y5 y6 y7 y8 y9 y10 y11 y12, LeO (plan_retry.j1 k y0 y1 y2 y3 y4 y5 y6 y7 y8 y9 y10 y11 y12) (plan_retry.j1 (k + 1) y0 y1 y2 y3 y4 y5 y6 y7 y8 y9 y10 y11 y12)) ∧ (∀ y0 y1 y2 y3 y4 y5 y6 y7, LeO (plan_retry.j2 k y0 y1 y2 y3 y4 y5 y6 y7) (plan_retry.j2 (k + 1) y0 y1 y2 y3 y4 y5 y6 y7)) ∧ (∀ y0 y1 y2 y3 y4 y5 y6, LeO (plan_retry.j3 k y0 y1 y2 y3 y4 y5 y6) (plan_retry.j3 (k + 1) y0 y1 y2 y3 y4 y5 y6))
 | 0 => ⟨fun _ _ _ _ _ _ _ _ r h => by simp [plan_retry.j0] at h, fun _ _ _ _ _ _ _ _ _ _ _ _ _ r h => by simp [plan_retry.j1] at h, fun _ _ _ _ _ _ _ _ r h => by simp [plan_retry.j2] at h, fun _ _ _ _ _ _ _ r h => by simp [plan_retry.j3] at h⟩
 | k + 1 => by
  obtain ⟨ih0, ih1, ih2, ih3⟩ := plan_retry.mono_l k
  refine ⟨?_, ?_, ?_, ?_⟩
  all_goals intros
  all_goals first | unfold plan_retry.j0 | unfold plan_retry.j1 | unfold plan_retry.j2 | unfold plan_retry.j3
  all_goals repeat' first | (with_reducible exact ih0 _ _ _ _ _ _ _ _) | (with_reducible exact ih1 _ _ _ _ _ _ _ _ _ _ _ _ _) | (with_reducible exact ih2 _ _ _ _ _ _ _ _) | (with_reducible exact ih3 _ _ _ _ _ _ _) | (with_reducible exact plan_edge.mono _ _ _ _ _ _ _ _) | (with_reducible exact plan_seek.mono _ _ _ _ _ _ _ _ _ _) | (with_reducible exact LeO.refl _) | (with_reducible exact LeO.none _) | (with_reducible refine LeO.ite ?_ ?_) | (with_reducible refine LeO.bind ?_ (fun _ => ?_)) | exact ih0 _ _ _ _ _ _ _ _ | exact ih1 _ _ _ _ _ _ _ _ _ _ _ _ _ | exact ih2 _ _ _ _ _ _ _ _ | exact ih3 _ _ _ _ _ _ _ | exact plan_edge.mono _ _ _ _ _ _ _ _ | exact plan_seek.mono _ _ _ _ _ _ _ _ _ _ | exact LeO.none _ | refine LeO.ite ?_ ?_ | refine LeO.bind ?_ (fun _ => ?_)
theorem plan_retry.mono : ∀ a0 a1 a2 a3 a4 a5 a6 k, LeO (plan_retry.f k a0 a1 a2 a3 a4 a5 a6) (plan_retry.f (k + 1) a0 a1 a2 a3 a4 a5 a6) := by
 intro a0 a1 a2 a3 a4 a5 a6 k
 obtain ⟨ih0, ih1, ih2, ih3⟩ := plan_retry.mono_l k
 unfold plan_retry.f
 repeat' first
   | (with_reducible exact ih0 _ _ _ _ _ _ _ _)
   | (with_reducible exact ih1 _ _ _ _ _ _ _ _ _ _ _ _ _)
   | (with_reducible exact ih2 _ _ _ _ _ _ _ _)
   | (with_reducible exact ih3 _ _ _ _ _ _ _)
   | (with_reducible exact plan_edge.mono _ _ _ _ _ _ _ _)
   | (with_reducible exact plan_seek.mono _ _ _ _ _ _ _ _ _ _)
   | (with_reducible exact LeO.refl _)
   | (with_reducible exact LeO.none _)
   | (with_reducible refine LeO.ite ?_ ?_)
   | (with_reducible refine LeO.bind ?_ (fun _ => ?_))
   | exact ih0 _ _ _ _ _ _ _ _
   | exact ih1 _ _ _ _ _ _ _ _ _ _ _ _ _
   | exact ih2 _ _ _ _ _ _ _ _
   | exact ih3 _ _ _ _ _ _ _
   | exact plan_edge.mono _ _ _ _ _ _ _ _
   | exact plan_seek.mono _ _ _ _ _ _ _ _ _ _
   | exact LeO.none _
   | refine LeO.ite ?_ ?_
   | refine LeO.bind ?_ (fun _ => ?_)
def plan_retry.T5 : Bool × List (List Nat × List Nat) := (true, [([], []), ([], []), ([], []), ([], []), ([2, 3], [2, 3]), ([0, 1, 4, 4], [0, 1, 4]), ([5], [5]), ([6], [6]), ([6], [6]), ([7, 5, 0, 1, 2, 3, 4, 5, 6, 7], [7]), ([8, 9, 0, 1, 2, 3, 4, 5, 6, 7, 8, 9], [8])])
def plan_retry.B5 : List Nat := [0, 0, 0, 0, 12, 31, 63, 127, 127, 255, 1023]
theorem plan_retry.tab5 : rtab .any (opsOf Try.f58 5) = plan_retry.T5 := by kernel_rfl
theorem plan_retry.bits5 : waitsOk plan_retry.T5.2 plan_retry.B5 = true := by kernel_rfl
set_option maxHeartbeats 8000000 in
set_option maxRecDepth 100000 in
theorem plan_retry.calls (k : Nat) (a0_0 : Int) (a0_1 : Int) (a0_2 : Bool) (a1_0 : Int) (a1_1 : Int) (a1_2 : Int) (A1_3 : Option Addr) (c1_3 : Nat) (l1_3 : List (S33)) (r1 : Int) (r2 : Int) (r3 : Int) (r4 : Bool) (w : World) (hr1_3 : Kd.C k33 w A1_3 l1_3.length l1_3) (hc1_3 : l1_3.length ≤ c1_3) (h : plan_retry.f k a0_0 a0_1 a0_2 a1_0 a1_1 a1_2 l1_3 = some (r1, r2, r3, r4)) :
  Calls Try.prog 58 #[.agg #[.int .i64 a0_0, .int .i64 a0_1, .bool a0_2], .agg #[.int .i64 a1_0, .int .i64 a1_1, .int .u8 a1_2, .slice A1_3 l1_3.length c1_3]] w fun e w' => e = .returned (.tuple #[.agg #[.int .i64 r1, .int .i64 r2, .int .i64 r3], .bool r4]) ∧ Below w.heap.size w w' := by
 have hu23 := Try.underlying23; have hu26 := Try.underlying26; have hu29 := Try.underlying29; have hu33 := Try.underlying33; have HR1_3 := Aside0.mk hr1_3; have HC1_3 := Aside0.mk hc1_3; clear hr1_3 hc1_3
 have HB := Aside0.mk (Below.refl w.heap.size w)
 have H : (if a1_1 ≥ a0_1 then (some (0, 0, 0, false)) else (plan_retry.j0 k false a0_0 a0_1 a0_2 a1_0 a1_1 a1_2 l1_3)) = some (r1, r2, r3, r4) := h
 clear h; have HC3 := Aside0.mk H; clear H
 go_enter Try.func58, Try.ntmps58
 go_upto_if 14 with (first | ((with_reducible refine gate_dst (N := 2) rfl ?_); refine box_e 2 #[.int .i64 a0_0, .int .i64 a0_1, .bool a0_2] 23 ?_; intro gb141 hg w4 hbox hb; have BK141 := Aside0.mk hbox; have GW141 := bg_ HB hg; have GE141 := bg_ HB hg; replace HB := bs_ HB hb; clear hb hbox hg) | ((with_reducible refine gate_dst (N := 3) rfl ?_); refine box_e 3 #[.int .i64 a1_0, .int .i64 a1_1, .int .u8 a1_2, .slice A1_3 l1_3.length c1_3] 26 ?_; intro gb142 hg w5 hbox hb; have BK142 := Aside0.mk hbox; have GW142 := bg_ HB hg; have GE142 := bg_ HB hg; have NB141_142 := bn_ BK141 hg; have NB142_141 := bm_ BK141 hg; replace BK141 := bb_ BK141 hb; replace HB := bs_ HB hb; clear hb hbox hg) | ((with_reducible refine gate_dst (N := 4) rfl ?_); refine box_e 4 #[.int .i64 0, .int .i64 0, .int .i64 0] 29 ?_; intro gb143 hg w6 hbox hb; have BK143 := Aside0.mk hbox; have GW143 := bg_ HB hg; have GE143 := bg_ HB hg; have NB141_143 := bn_ BK141 hg; have NB143_141 := bm_ BK141 hg; have NB142_143 := bn_ BK142 hg; have NB143_142 := bm_ BK142 hg; replace BK141 := bb_ BK141 hb; replace BK142 := bb_ BK142 hb; replace HB := bs_ HB hb; clear hb hbox hg; have hnb7 := NB142_141.out; have hnc7 := NB141_142.out; have hnb8 := NB142_143.out; have hnc8 := NB143_142.out; obtain ⟨hcz9_0, hcz9_1, hcz9_2, hcz9_3, hfz9_0, hfz9_1, hfz9_2, hfz9_3⟩ := c4_ BK142; have hnb10 := NB141_143.out; have hnc10 := NB143_141.out; obtain ⟨hcz11_0, hcz11_1, hcz11_2, hfz11_0, hfz11_1, hfz11_2⟩ := c3_ BK141))
 (try simp only [Act.put, List.setIfInBounds_toArray, List.set_cons_zero, List.set_cons_succ])
 go_cut [5] (fun v5 wc => ∃ (kq : Nat) (x5_2 : Bool) (x144000_2 : Int) (x144001_2 : Int) (x144002_2 : Int), v5 = .bool x5_2 ∧ Aside0 (plan_retry.j0 kq x5_2 a0_0 a0_1 a0_2 a1_0 a1_1 a1_2 l1_3 = some (r1, r2, r3, r4)) ∧ Aside0 (kq ≤ k) ∧ Aside0 (wc.heap[gb141]? = some (.cells #[.int .i64 a0_0, .int .i64 a0_1, .bool a0_2] 23 (0, 0))) ∧ Aside0 (wc.heap[gb142]? = some (.cells #[.int .i64 a1_0, .int .i64 a1_1, .int .u8 a1_2, (.slice A1_3 l1_3.length c1_3)] 26 (0, 0))) ∧ Aside0 (wc.heap[gb143]? = some (.cells #[.int .i64 x144000_2, .int .i64 x144001_2, .int .i64 x144002_2] 29 (0, 0))) ∧ Aside0 (Below w.heap.size w wc))
 case first =>
  have H := HC3.out; clear HC3
  by_cases c12 : a1_1 ≥ a0_1
  ·rw [if_pos c12] at H
   have c12b0 : decide (a0_1 ≤ a1_1) = true := decide_eq_true c12
   clear c12
   (first | rw [c12b0] | (simp only [i64_w, i32_w]; rw [c12b0]) | skip)
   simp only [Option.some.injEq, Prod.mk.injEq] at H; obtain ⟨rfl, rfl, rfl, rfl⟩ := H; have hnb13 := NB143_141.out; have hnc13 := NB141_143.out; have hnb14 := NB143_142.out; have hnc14 := NB142_143.out; obtain ⟨hcz15_0, hcz15_1, hcz15_2, hfz15_0, hfz15_1, hfz15_2⟩ := c3_ BK143; go_wp2
   refine bodyPost_ret (results_ct rfl _ _ gb143 29 #[.int .i64 0, .int .i64 0, .int .i64 0] (0, 0) _ rfl (bp_ BK143) Try.underlying29 rfl (by kernel_rfl)) rfl ?_
   exact ⟨by first | rfl | (simp [errW_none, errW_some] <;> rfl) | (simp [*, errW_none, errW_some] <;> rfl), bh_ HB⟩
  ·rw [if_neg c12] at H
   have c12b0 : decide (a0_1 ≤ a1_1) = false := decide_eq_false c12
   clear c12
   (first | rw [c12b0] | (simp only [i64_w, i32_w]; rw [c12b0]) | skip)
   have H' := Aside0.mk H
   clear H; go_wp2; go_meet
   case rel => exact ⟨_, (false), (0), (0), (0), (by first | rfl | (simp; done) | (simp [*]; done)), H', ⟨by first | omega | exact Nat.le_refl _⟩, ⟨bq_ BK141⟩, ⟨bq_ BK142⟩, ⟨bq_ BK143⟩, ⟨bh_ HB⟩⟩
 case rest =>
  clear HC3; (try clear c1); (try clear p2); (try clear c5); (try clear c7); (try clear c8); (try clear c10); (try clear c12); (try clear c12b0); (try clear c13); (try clear c14); (try clear hcz11_0 hcz11_1 hcz11_2); (try clear hcz15_0 hcz15_1 hcz15_2); (try clear hcz9_0 hcz9_1 hcz9_2 hcz9_3); (try clear hfz11_0 hfz11_1 hfz11_2); (try clear hfz15_0 hfz15_1 hfz15_2); (try clear hfz9_0 hfz9_1 hfz9_2 hfz9_3); obtain ⟨kq, x5_2, x144000_2, x144001_2, x144002_2, rfl, HA, HJ2, BK141, BK142, BK143, HB⟩ := hcut
  cases kq with
  | zero => exact absurd HA.out (by simp [plan_retry.j0])
  | succ kj2 =>
   have H := HA.out; clear HA; simp only [plan_retry.j0] at H; replace H := Option.bind_eq_some_iff.mp H; obtain ⟨⟨t144, t145, t146, t147⟩, A160, H⟩ := H
   replace H : (if t147 = true then (plan_retry.j1 kj2 x5_2 t147 false a0_0 a0_1 a0_2 a1_0 a1_1 a1_2 l1_3 t144 t145 t146) else (plan_retry.j1 kj2 x5_2 t147 (decide ((wrap64 (a1_1 + 1)) < a0_1)) a0_0 a0_1 a0_2 a1_0 a1_1 a1_2 l1_3 t144 t145 t146)) = some (r1, r2, r3, r4) := H
   have A16 := Aside0.mk A160; clear A160; have HC17 := Aside0.mk H; clear H; have hnb18 := NB141_142.out; have hnc18 := NB142_141.out; have hnb19 := NB141_143.out; have hnc19 := NB143_141.out; obtain ⟨hcz20_0, hcz20_1, hcz20_2, hfz20_0, hfz20_1, hfz20_2⟩ := c3_ BK141; have hnb21 := NB142_143.out; have hnc21 := NB143_142.out; obtain ⟨hcz22_0, hcz22_1, hcz22_2, hcz22_3, hfz22_0, hfz22_1, hfz22_2, hfz22_3⟩ := c4_ BK142
   go_upto_region 4 with (first | ((with_reducible refine gate_callee (f := 56) rfl ?_); refine gl_ (some 21) rfl rfl Try.func56 (by kernel_rfl) rfl #[.agg #[.int .i64 a0_0, .int .i64 a0_1, .bool a0_2], .agg #[.int .i64 a1_0, .int .i64 a1_1, .int .u8 a1_2, .slice A1_3 l1_3.length c1_3], .int .u8 45, .int .i64 a1_0] rfl ?_; (with_reducible refine (plan_seek.calls kj2 a0_0 a0_1 a0_2 a1_0 a1_1 a1_2 _ _ l1_3 45 a1_0 t144 t145 t146 t147 _ ?side1 ?side2 A16.out).mono ?_); (case side1 => exact cb_ HR1_3 HB); (case side2 => exact HC1_3.out); rintro e w23 ⟨rfl, hb⟩; refine ⟨_, rfl, ?_⟩; replace BK141 := bb_ BK141 hb; replace BK142 := bb_ BK142 hb; replace BK143 := bb_ BK143 hb; replace HB := bs_ HB hb; (try clear hb)) | ((with_reducible refine gate_dst (N := 6) rfl ?_); refine box_e 6 #[.int .i64 0, .int .i64 0, .int .u8 0] 33 ?_; intro gb148 hg w24 hbox hb; have BK148 := Aside0.mk hbox; have GW148 := bg_ HB hg; have GE148 := bg_ HB hg; have NB141_148 := bn_ BK141 hg; have NB148_141 := bm_ BK141 hg; have NB142_148 := bn_ BK142 hg; have NB148_142 := bm_ BK142 hg; have NB143_148 := bn_ BK143 hg; have NB148_143 := bm_ BK143 hg; replace BK141 := bb_ BK141 hb; replace BK142 := bb_ BK142 hb; replace BK143 := bb_ BK143 hb; replace HB := bs_ HB hb; clear hb hbox hg; have hnb25 := NB148_141.out; have hnc25 := NB141_148.out; have hnb26 := NB148_142.out; have hnc26 := NB142_148.out; have hnb27 := NB148_143.out; have hnc27 := NB143_148.out; obtain ⟨hcz28_0, hcz28_1, hcz28_2, hfz28_0, hfz28_1, hfz28_2⟩ := c3_ BK148))
   (try simp only [Act.put, List.setIfInBounds_toArray, List.set_cons_zero, List.set_cons_succ])
   go_cut [33] (fun v33 wc => ∃ (kq : Nat) (x33_16 : Bool), v33 = .bool x33_16 ∧ Aside0 (plan_retry.j1 kq x5_2 t147 x33_16 a0_0 a0_1 a0_2 a1_0 a1_1 a1_2 l1_3 t144 t145 t146 = some (r1, r2, r3, r4)) ∧ Aside0 (kq ≤ kj2) ∧ Aside0 (wc.heap[gb141]? = some (.cells #[.int .i64 a0_0, .int .i64 a0_1, .bool a0_2] 23 (0, 0))) ∧ Aside0 (wc.heap[gb142]? = some (.cells #[.int .i64 a1_0, .int .i64 a1_1, .int .u8 a1_2, (.slice A1_3 l1_3.length c1_3)] 26 (0, 0))) ∧ Aside0 (wc.heap[gb143]? = some (.cells #[.int .i64 x144000_2, .int .i64 x144001_2, .int .i64 x144002_2] 29 (0, 0))) ∧ Aside0 (wc.heap[gb148]? = some (.cells #[.int .i64 t144, .int .i64 t145, .int .u8 t146] 33 (0, 0))) ∧ Aside0 (Below w.heap.size w wc))
   case first =>
    have H := HC17.out; clear HC17
    by_cases c29 : t147 = true
    ·subst c29
     have H1 : (plan_retry.j1 kj2 x5_2 true false a0_0 a0_1 a0_2 a1_0 a1_1 a1_2 l1_3 t144 t145 t146) = some (r1, r2, r3, r4) := by rw [if_pos rfl] at H; exact H
     clear H; have H := H1; clear H1
     have H' := Aside0.mk H
     clear H; go_wp2; go_meet
     case rel => exact ⟨_, (false), (by first | rfl | (simp; done) | (simp [*]; done)), H', ⟨by have := HJ2.out; first | omega | exact Nat.le_refl _⟩, ⟨by (with_reducible repeat (first | refine blk_drewN ?_ _ | refine blk_drew ?_ | refine blk_alloc ?_ _)); refine blk_far ?_ NB141_148.out _; (with_reducible repeat (first | refine blk_drewN ?_ _ | refine blk_drew ?_ | refine blk_alloc ?_ _)); refine blk_far ?_ NB141_148.out _; (with_reducible repeat (first | refine blk_drewN ?_ _ | refine blk_drew ?_ | refine blk_alloc ?_ _)); refine blk_far ?_ NB141_148.out _; (with_reducible repeat (first | refine blk_drewN ?_ _ | refine blk_drew ?_ | refine blk_alloc ?_ _)); exact BK141.out⟩, ⟨by (with_reducible repeat (first | refine blk_drewN ?_ _ | refine blk_drew ?_ | refine blk_alloc ?_ _)); refine blk_far ?_ NB142_148.out _; (with_reducible repeat (first | refine blk_drewN ?_ _ | refine blk_drew ?_ | refine blk_alloc ?_ _)); refine blk_far ?_ NB142_148.out _; (with_reducible repeat (first | refine blk_drewN ?_ _ | refine blk_drew ?_ | refine blk_alloc ?_ _)); refine blk_far ?_ NB142_148.out _; (with_reducible repeat (first | refine blk_drewN ?_ _ | refine blk_drew ?_ | refine blk_alloc ?_ _)); exact BK142.out⟩, ⟨by (with_reducible repeat (first | refine blk_drewN ?_ _ | refine blk_drew ?_ | refine blk_alloc ?_ _)); refine blk_far ?_ NB143_148.out _; (with_reducible repeat (first | refine blk_drewN ?_ _ | refine blk_drew ?_ | refine blk_alloc ?_ _)); refine blk_far ?_ NB143_148.out _; (with_reducible repeat (first | refine blk_drewN ?_ _ | refine blk_drew ?_ | refine blk_alloc ?_ _)); refine blk_far ?_ NB143_148.out _; (with_reducible repeat (first | refine blk_drewN ?_ _ | refine blk_drew ?_ | refine blk_alloc ?_ _)); exact BK143.out⟩, ⟨by (with_reducible repeat (first | refine blk_drewN ?_ _ | refine blk_drew ?_ | refine blk_alloc ?_ _)); refine blk_put (cs := #[.int .i64 t144, .int .i64 t145, .int .u8 0]) ?_ 2 _ rfl; (with_reducible repeat (first | refine blk_drewN ?_ _ | refine blk_drew ?_ | refine blk_alloc ?_ _)); refine blk_put (cs := #[.int .i64 t144, .int .i64 0, .int .u8 0]) ?_ 1 _ rfl; (with_reducible repeat (first | refine blk_drewN ?_ _ | refine blk_drew ?_ | refine blk_alloc ?_ _)); refine blk_put (cs := #[.int .i64 0, .int .i64 0, .int .u8 0]) ?_ 0 _ rfl; (with_reducible repeat (first | refine blk_drewN ?_ _ | refine blk_drew ?_ | refine blk_alloc ?_ _)); exact BK148.out⟩, ⟨bh_ HB⟩⟩
    ·replace c29 := Bool.eq_false_iff.mpr c29
     subst c29
     have H1 : (plan_retry.j1 kj2 x5_2 false (decide ((wrap64 (a1_1 + 1)) < a0_1)) a0_0 a0_1 a0_2 a1_0 a1_1 a1_2 l1_3 t144 t145 t146) = some (r1, r2, r3, r4) := by rw [if_neg (show ¬ (false = true) by decide)] at H; exact H
     clear H; have H := H1; clear H1
     have H' := Aside0.mk H
     clear H; have hnb30 := NB142_141.out; have hnc30 := NB141_142.out; have hnb31 := NB142_143.out; have hnc31 := NB143_142.out; have hnb32 := NB142_148.out; have hnc32 := NB148_142.out; obtain ⟨hcz33_0, hcz33_1, hcz33_2, hcz33_3, hfz33_0, hfz33_1, hfz33_2, hfz33_3⟩ := c4_ BK142; have hnb34 := NB141_143.out; have hnc34 := NB143_141.out; have hnb35 := NB141_148.out; have hnc35 := NB148_141.out; obtain ⟨hcz36_0, hcz36_1, hcz36_2, hfz36_0, hfz36_1, hfz36_2⟩ := c3_ BK141; go_wp2; go_meet
     case rel => exact ⟨_, (decide ((wrap64 (a1_1 + 1)) < a0_1)), (by first | rfl | (simp; done) | (simp [*]; done)), H', ⟨by have := HJ2.out; first | omega | exact Nat.le_refl _⟩, ⟨by (with_reducible repeat (first | refine blk_drewN ?_ _ | refine blk_drew ?_ | refine blk_alloc ?_ _)); refine blk_far ?_ NB141_148.out _; (with_reducible repeat (first | refine blk_drewN ?_ _ | refine blk_drew ?_ | refine blk_alloc ?_ _)); refine blk_far ?_ NB141_148.out _; (with_reducible repeat (first | refine blk_drewN ?_ _ | refine blk_drew ?_ | refine blk_alloc ?_ _)); refine blk_far ?_ NB141_148.out _; (with_reducible repeat (first | refine blk_drewN ?_ _ | refine blk_drew ?_ | refine blk_alloc ?_ _)); exact BK141.out⟩, ⟨by (with_reducible repeat (first | refine blk_drewN ?_ _ | refine blk_drew ?_ | refine blk_alloc ?_ _)); refine blk_far ?_ NB142_148.out _; (with_reducible repeat (first | refine blk_drewN ?_ _ | refine blk_drew ?_ | refine blk_alloc ?_ _)); refine blk_far ?_ NB142_148.out _; (with_reducible repeat (first | refine blk_drewN ?_ _ | refine blk_drew ?_ | refine blk_alloc ?_ _)); refine blk_far ?_ NB142_148.out _; (with_reducible repeat (first | refine blk_drewN ?_ _ | refine blk_drew ?_ | refine blk_alloc ?_ _)); exact BK142.out⟩, ⟨by (with_reducible repeat (first | refine blk_drewN ?_ _ | refine blk_drew ?_ | refine blk_alloc ?_ _)); refine blk_far ?_ NB143_148.out _; (with_reducible repeat (first | refine blk_drewN ?_ _ | refine blk_drew ?_ | refine blk_alloc ?_ _)); refine blk_far ?_ NB143_148.out _; (with_reducible repeat (first | refine blk_drewN ?_ _ | refine blk_drew ?_ | refine blk_alloc ?_ _)); refine blk_far ?_ NB143_148.out _; (with_reducible repeat (first | refine blk_drewN ?_ _ | refine blk_drew ?_ | refine blk_alloc ?_ _)); exact BK143.out⟩, ⟨by (with_reducible repeat (first | refine blk_drewN ?_ _ | refine blk_drew ?_ | refine blk_alloc ?_ _)); refine blk_put (cs := #[.int .i64 t144, .int .i64 t145, .int .u8 0]) ?_ 2 _ rfl; (with_reducible repeat (first | refine blk_drewN ?_ _ | refine blk_drew ?_ | refine blk_alloc ?_ _)); refine blk_put (cs := #[.int .i64 t144, .int .i64 0, .int .u8 0]) ?_ 1 _ rfl; (with_reducible repeat (first | refine blk_drewN ?_ _ | refine blk_drew ?_ | refine blk_alloc ?_ _)); refine blk_put (cs := #[.int .i64 0, .int .i64 0, .int .u8 0]) ?_ 0 _ rfl; (with_reducible repeat (first | refine blk_drewN ?_ _ | refine blk_drew ?_ | refine blk_alloc ?_ _)); exact BK148.out⟩, ⟨bh_ HB⟩⟩
   case rest =>
    clear HC17; (try clear c1); (try clear c2); (try clear p2); (try clear c3); (try clear c5); (try clear p6); (try clear c7); (try clear c8); (try clear c10); (try clear c12); (try clear c12b0); (try clear c13); (try clear c14); (try clear c18); (try clear c19); (try clear c21); (try clear c25); (try clear c26); (try clear c27); (try clear c29); (try clear c30); (try clear c31); (try clear c32); (try clear c34); (try clear c35); (try clear hcz11_0 hcz11_1 hcz11_2); (try clear hcz15_0 hcz15_1 hcz15_2); (try clear hcz20_0 hcz20_1 hcz20_2); (try clear hcz22_0 hcz22_1 hcz22_2 hcz22_3); (try clear hcz28_0 hcz28_1 hcz28_2); (try clear hcz33_0 hcz33_1 hcz33_2 hcz33_3); (try clear hcz36_0 hcz36_1 hcz36_2); (try clear hcz9_0 hcz9_1 hcz9_2 hcz9_3); (try clear hfz11_0 hfz11_1 hfz11_2); (try clear hfz15_0 hfz15_1 hfz15_2); (try clear hfz20_0 hfz20_1 hfz20_2); (try clear hfz22_0 hfz22_1 hfz22_2 hfz22_3); (try clear hfz28_0 hfz28_1 hfz28_2); (try clear hfz33_0 hfz33_1 hfz33_2 hfz33_3); (try clear hfz36_0 hfz36_1 hfz36_2); (try clear hfz9_0 hfz9_1 hfz9_2 hfz9_3); (try clear p2); obtain ⟨kq, x33_16, rfl, HA, HJ16, BK141, BK142, BK143, BK148, HB⟩ := hcut
    cases kq with
    | zero => exact absurd HA.out (by simp [plan_retry.j1])
    | succ kj16 =>
     have H := HA.out; clear HA; simp only [plan_retry.j1] at H; have HC37 := Aside0.mk H; clear H
     go_upto_if 33 with (fail)
     go_cut [5, 7] (fun v5 v7 wc => ∃ (kq : Nat) (x5_36 : Bool) (x7_36 : Bool) (x149000_36 : Int) (x149001_36 : Int) (x149002_36 : Int), v5 = .bool x5_36 ∧ v7 = .bool x7_36 ∧ Aside0 (plan_retry.j2 kq x5_36 x7_36 a0_0 a0_1 a0_2 x149000_36 x149001_36 x149002_36 = some (r1, r2, r3, r4)) ∧ Aside0 (kq ≤ kj16) ∧ Aside0 (wc.heap[gb141]? = some (.cells #[.int .i64 a0_0, .int .i64 a0_1, .bool a0_2] 23 (0, 0))) ∧ Aside0 (wc.heap[gb142]? = some (.cells #[.int .i64 a1_0, .int .i64 a1_1, .int .u8 a1_2, (.slice A1_3 l1_3.length c1_3)] 26 (0, 0))) ∧ Aside0 (wc.heap[gb143]? = some (.cells #[.int .i64 x144000_2, .int .i64 x144001_2, .int .i64 x144002_2] 29 (0, 0))) ∧ Aside0 (wc.heap[gb148]? = some (.cells #[.int .i64 x149000_36, .int .i64 x149001_36, .int .u8 x149002_36] 33 (0, 0))) ∧ Aside0 (Below w.heap.size w wc))
     case first =>
      have H := HC37.out; clear HC37
      by_cases c38 : x33_16 = true
      ·subst c38
       have H1 : ((plan_edge.f kj16 a0_0 a0_1 a0_2 a1_0 a1_1 a1_2 l1_3).bind fun t149 => ((plan_seek.f kj16 a0_0 a0_1 a0_2 a1_0 a1_1 a1_2 l1_3 45 t149).bind fun bt150 => (plan_retry.j2 kj16 bt150.2.2.2 bt150.2.2.2 a0_0 a0_1 a0_2 bt150.1 bt150.2.1 bt150.2.2.1))) = some (r1, r2, r3, r4) := by rw [if_pos rfl] at H; exact H
       clear H; have H := H1; clear H1; replace H := Option.bind_eq_some_iff.mp H; obtain ⟨t149, A390, H⟩ := H
       replace H : ((plan_seek.f kj16 a0_0 a0_1 a0_2 a1_0 a1_1 a1_2 l1_3 45 t149).bind fun bt150 => (plan_retry.j2 kj16 bt150.2.2.2 bt150.2.2.2 a0_0 a0_1 a0_2 bt150.1 bt150.2.1 bt150.2.2.1)) = some (r1, r2, r3, r4) := H
       have A39 := Aside0.mk A390; clear A390; replace H := Option.bind_eq_some_iff.mp H; obtain ⟨⟨t150, t151, t152, t153⟩, A400, H⟩ := H
       replace H : (plan_retry.j2 kj16 t153 t153 a0_0 a0_1 a0_2 t150 t151 t152) = some (r1, r2, r3, r4) := H
       have A40 := Aside0.mk A400; clear A400
       have H' := Aside0.mk H
       clear H
       try go_wp2
       replace BK141 := Aside0.mk (blk_drew BK141.out)
       replace BK142 := Aside0.mk (blk_drew BK142.out)
       replace BK143 := Aside0.mk (blk_drew BK143.out)
       replace BK148 := Aside0.mk (blk_drew BK148.out)
       replace HB := Aside0.mk (below_drew1 HB.out)
       refine start_ (n := 11) (S := fun w' => w'.cell? ⟨gb141, 0, none⟩ = some (.int .i64 a0_0) ∧ w'.cell? ⟨gb141, 1, none⟩ = some (.int .i64 a0_1) ∧ w'.cell? ⟨gb141, 2, none⟩ = some (.bool a0_2) ∧ w'.cell? ⟨gb142, 0, none⟩ = some (.int .i64 a1_0) ∧ w'.cell? ⟨gb142, 1, none⟩ = some (.int .i64 a1_1) ∧ w'.cell? ⟨gb142, 2, none⟩ = some (.int .u8 a1_2) ∧ w'.cell? ⟨gb142, 3, none⟩ = some (.slice A1_3 l1_3.length c1_3)) (ds := []) #[false, false, false, false, false, false, false, false, false, false, false] (by kernel_rfl) rfl rfl (a3_ (k3_ BK141) (k4_ BK142)) (fun hHeld => ?_); refine with_tabW plan_retry.tab5 plan_retry.bits5 (fun HT_ HW_ => ?_)
       generalize wc.drew = w41 at BK141 BK142 BK143 BK148 HB hHeld ⊢
       refine tk_ 0 35 (lb_ 11 1) rfl rfl (take_ofW HT_.out HW_.out (by kernel_rfl)) hHeld ?_
       refine tk_ 1 36 (lb_ 11 3) rfl rfl (take_ofW HT_.out HW_.out (by kernel_rfl)) hHeld ?_
       refine tk_ 2 37 (lb_ 11 7) rfl rfl (take_ofW HT_.out HW_.out (by kernel_rfl)) hHeld ?_
       refine tk_ 3 38 (lb_ 11 15) rfl rfl (take_ofW HT_.out HW_.out (by kernel_rfl)) hHeld ?_
       refine one_ (i := 4) (N := some 39) #[true, true, true, true, true, false, false, false, false, false, false] rfl rfl (one_of HT_.out (by kernel_rfl)) (by decide) (fun K hK => ?_)
       refine gq_ Try.func51 (by kernel_rfl) rfl #[.agg #[.int .i64 a0_0, .int .i64 a0_1, .bool a0_2], .agg #[.int .i64 a1_0, .int .i64 a1_1, .int .u8 a1_2, .slice A1_3 l1_3.length c1_3]] (by rfl) rfl rfl ?_
       with_reducible refine (plan_edge.calls kj16 a0_0 a0_1 a0_2 a1_0 a1_1 a1_2 _ _ l1_3 t149 _ ?side1 ?side2 A39.out).mono ?_
       (case side1 => exact cb_ HR1_3 HB)
       (case side2 => exact HC1_3.out)
       rintro e w42 ⟨rfl, hb⟩
       refine ⟨_, rfl, ?_⟩
       replace BK141 := bb_ BK141 hb; replace BK142 := bb_ BK142 hb; replace BK143 := bb_ BK143 hb; replace BK148 := bb_ BK148 hb; replace HB := bs_ HB hb
       (try clear hb)
       refine hK.out _ _ (a3_ (k3_ BK141) (k4_ BK142)) (fun hHeld => ?_)
       clear hK K
       refine nm_ 39 ?_
       refine one_ (i := 5) (N := some 40) #[true, true, true, true, true, true, false, false, false, false, false] rfl rfl (one_of HT_.out (by kernel_rfl)) (by decide) (fun K hK => ?_)
       refine gq_ Try.func56 (by kernel_rfl) rfl #[.agg #[.int .i64 a0_0, .int .i64 a0_1, .bool a0_2], .agg #[.int .i64 a1_0, .int .i64 a1_1, .int .u8 a1_2, .slice A1_3 l1_3.length c1_3], .int .u8 45, .int .i64 t149] (by rfl) rfl rfl ?_
       with_reducible refine (plan_seek.calls kj16 a0_0 a0_1 a0_2 a1_0 a1_1 a1_2 _ _ l1_3 45 t149 t150 t151 t152 t153 _ ?side1 ?side2 A40.out).mono ?_
       (case side1 => exact cb_ HR1_3 HB)
       (case side2 => exact HC1_3.out)
       rintro e w43 ⟨rfl, hb⟩
       refine ⟨_, rfl, ?_⟩
       replace BK141 := bb_ BK141 hb; replace BK142 := bb_ BK142 hb; replace BK143 := bb_ BK143 hb; replace BK148 := bb_ BK148 hb; replace HB := bs_ HB hb
       (try clear hb)
       refine hK.out _ _ (a3_ (k3_ BK141) (k4_ BK142)) (fun hHeld => ?_)
       clear hK K
       refine nm_ 40 ?_
       refine pu_ 6 34 (lb_ 11 127) rfl rfl (ao_ HT_) ?_
       refine pu_ 7 41 (lb_ 11 255) rfl rfl (ao_ HT_) ?_
       refine pu_ 8 42 (lb_ 11 511) rfl rfl (ao_ HT_) ?_
       refine one_ (i := 9) (N := none) #[true, true, true, true, true, true, true, true, true, true, false] rfl rfl (one_of HT_.out (by kernel_rfl)) (by decide) (fun K hK => ?_)
       have hs44 : w43.cell? ⟨gb148, 0, none⟩ = some (.int .i64 t144) := (blk_cell BK148.out 0).trans rfl
       have hfs44 := blk_frozen BK148.out 0; have hns44_0 := NB141_148.out; have hns44_1 := NB142_148.out; have hns44_2 := NB143_148.out; have hms44_0 := NB148_141.out; have hms44_1 := NB148_142.out; have hms44_2 := NB148_143.out
       have hs45 : w43.cell? ⟨gb148, 1, none⟩ = some (.int .i64 t145) := (blk_cell BK148.out 1).trans rfl
       have hfs45 := blk_frozen BK148.out 1; have hns45_0 := NB141_148.out; have hns45_1 := NB142_148.out; have hns45_2 := NB143_148.out; have hms45_0 := NB148_141.out; have hms45_1 := NB148_142.out; have hms45_2 := NB148_143.out
       have hs46 : w43.cell? ⟨gb148, 2, none⟩ = some (.int .u8 t146) := (blk_cell BK148.out 2).trans rfl
       have hfs46 := blk_frozen BK148.out 2; have hns46_0 := NB141_148.out; have hns46_1 := NB142_148.out; have hns46_2 := NB143_148.out; have hms46_0 := NB148_141.out; have hms46_1 := NB148_142.out; have hms46_2 := NB148_143.out
       refine skip_ (w1 := ?_) (by rfl) rfl ?_ ?_
       rotate_left
       ·go_simp
        rfl
       refine hK.out _ _ ⟨(cf_ NB141_148 ((cf_ NB141_148 ((cf_ NB141_148 (hHeld.1)))))), (cf_ NB141_148 ((cf_ NB141_148 ((cf_ NB141_148 (hHeld.2.1)))))), (cf_ NB141_148 ((cf_ NB141_148 ((cf_ NB141_148 (hHeld.2.2.1)))))), (cf_ NB142_148 ((cf_ NB142_148 ((cf_ NB142_148 (hHeld.2.2.2.1)))))), (cf_ NB142_148 ((cf_ NB142_148 ((cf_ NB142_148 (hHeld.2.2.2.2.1)))))), (cf_ NB142_148 ((cf_ NB142_148 ((cf_ NB142_148 (hHeld.2.2.2.2.2.1)))))), (cf_ NB142_148 ((cf_ NB142_148 ((cf_ NB142_148 (hHeld.2.2.2.2.2.2))))))⟩ (fun hHeld => ?_)
       clear hK K
       refine pu_ 10 7 (lb_ 11 2047) rfl rfl (ao_ HT_) ?_
       refine done_ (done_of HT_.out (by kernel_rfl)) ?_
       try go_wp2
       go_meet
       case rel => exact ⟨_, (t153), (t153), (t150), (t151), (t152), (by first | rfl | (simp; done) | (simp [*]; done)), (by first | rfl | (simp; done) | (simp [*]; done)), H', ⟨by have := HJ2.out; have := HJ16.out; first | omega | exact Nat.le_refl _⟩, ⟨by (with_reducible repeat (first | refine blk_drewN ?_ _ | refine blk_drew ?_ | refine blk_alloc ?_ _)); refine blk_far ?_ NB141_148.out _; (with_reducible repeat (first | refine blk_drewN ?_ _ | refine blk_drew ?_ | refine blk_alloc ?_ _)); refine blk_far ?_ NB141_148.out _; (with_reducible repeat (first | refine blk_drewN ?_ _ | refine blk_drew ?_ | refine blk_alloc ?_ _)); refine blk_far ?_ NB141_148.out _; (with_reducible repeat (first | refine blk_drewN ?_ _ | refine blk_drew ?_ | refine blk_alloc ?_ _)); exact BK141.out⟩, ⟨by (with_reducible repeat (first | refine blk_drewN ?_ _ | refine blk_drew ?_ | refine blk_alloc ?_ _)); refine blk_far ?_ NB142_148.out _; (with_reducible repeat (first | refine blk_drewN ?_ _ | refine blk_drew ?_ | refine blk_alloc ?_ _)); refine blk_far ?_ NB142_148.out _; (with_reducible repeat (first | refine blk_drewN ?_ _ | refine blk_drew ?_ | refine blk_alloc ?_ _)); refine blk_far ?_ NB142_148.out _; (with_reducible repeat (first | refine blk_drewN ?_ _ | refine blk_drew ?_ | refine blk_alloc ?_ _)); exact BK142.out⟩, ⟨by (with_reducible repeat (first | refine blk_drewN ?_ _ | refine blk_drew ?_ | refine blk_alloc ?_ _)); refine blk_far ?_ NB143_148.out _; (with_reducible repeat (first | refine blk_drewN ?_ _ | refine blk_drew ?_ | refine blk_alloc ?_ _)); refine blk_far ?_ NB143_148.out _; (with_reducible repeat (first | refine blk_drewN ?_ _ | refine blk_drew ?_ | refine blk_alloc ?_ _)); refine blk_far ?_ NB143_148.out _; (with_reducible repeat (first | refine blk_drewN ?_ _ | refine blk_drew ?_ | refine blk_alloc ?_ _)); exact BK143.out⟩, ⟨by (with_reducible repeat (first | refine blk_drewN ?_ _ | refine blk_drew ?_ | refine blk_alloc ?_ _)); refine blk_put (cs := #[.int .i64 t150, .int .i64 t151, .int .u8 t146]) ?_ 2 _ rfl; (with_reducible repeat (first | refine blk_drewN ?_ _ | refine blk_drew ?_ | refine blk_alloc ?_ _)); refine blk_put (cs := #[.int .i64 t150, .int .i64 t145, .int .u8 t146]) ?_ 1 _ rfl; (with_reducible repeat (first | refine blk_drewN ?_ _ | refine blk_drew ?_ | refine blk_alloc ?_ _)); refine blk_put (cs := #[.int .i64 t144, .int .i64 t145, .int .u8 t146]) ?_ 0 _ rfl; (with_reducible repeat (first | refine blk_drewN ?_ _ | refine blk_drew ?_ | refine blk_alloc ?_ _)); exact BK148.out⟩, ⟨bh_ HB⟩⟩
      ·replace c38 := Bool.eq_false_iff.mpr c38
       subst c38
       have H1 : (plan_retry.j2 kj16 x5_2 t147 a0_0 a0_1 a0_2 t144 t145 t146) = some (r1, r2, r3, r4) := by rw [if_neg (show ¬ (false = true) by decide)] at H; exact H
       clear H; have H := H1; clear H1
       have H' := Aside0.mk H
       clear H; go_wp2; go_meet
       case rel => exact ⟨_, (x5_2), (t147), (t144), (t145), (t146), (by first | rfl | (simp; done) | (simp [*]; done)), (by first | rfl | (simp; done) | (simp [*]; done)), H', ⟨by have := HJ2.out; have := HJ16.out; first | omega | exact Nat.le_refl _⟩, ⟨bq_ BK141⟩, ⟨bq_ BK142⟩, ⟨bq_ BK143⟩, ⟨bq_ BK148⟩, ⟨bh_ HB⟩⟩
     case rest =>
      clear HC37; (try clear c1); (try clear c2); (try clear p2); (try clear c3); (try clear c5); (try clear p6); (try clear c7); (try clear c8); (try clear c10); (try clear c12); (try clear c12b0); (try clear c13); (try clear c14); (try clear c18); (try clear c19); (try clear c21); (try clear c25); (try clear c26); (try clear c27); (try clear c29); (try clear c30); (try clear c31); (try clear c32); (try clear c34); (try clear c35); (try clear c38); (try clear hcz11_0 hcz11_1 hcz11_2); (try clear hcz15_0 hcz15_1 hcz15_2); (try clear hcz20_0 hcz20_1 hcz20_2); (try clear hcz22_0 hcz22_1 hcz22_2 hcz22_3); (try clear hcz28_0 hcz28_1 hcz28_2); (try clear hcz33_0 hcz33_1 hcz33_2 hcz33_3); (try clear hcz36_0 hcz36_1 hcz36_2); (try clear hcz9_0 hcz9_1 hcz9_2 hcz9_3); (try clear hfz11_0 hfz11_1 hfz11_2); (try clear hfz15_0 hfz15_1 hfz15_2); (try clear hfz20_0 hfz20_1 hfz20_2); (try clear hfz22_0 hfz22_1 hfz22_2 hfz22_3); (try clear hfz28_0 hfz28_1 hfz28_2); (try clear hfz33_0 hfz33_1 hfz33_2 hfz33_3); (try clear hfz36_0 hfz36_1 hfz36_2); (try clear hfz9_0 hfz9_1 hfz9_2 hfz9_3); (try clear p2); (try clear p6); obtain ⟨kq, x5_36, x7_36, x149000_36, x149001_36, x149002_36, rfl, rfl, HA, HJ36, BK141, BK142, BK143, BK148, HB⟩ := hcut
      cases kq with
      | zero => exact absurd HA.out (by simp [plan_retry.j2])
      | succ kj36 =>
       have H := HA.out; clear HA; simp only [plan_retry.j2] at H; have HC47 := Aside0.mk H; clear H
       go_upto_if 45 with (fail)
       go_cut [5] (fun v5 wc => ∃ (kq : Nat) (x5_46 : Bool) (x144000_46 : Int) (x144001_46 : Int) (x144002_46 : Int), v5 = .bool x5_46 ∧ Aside0 (plan_retry.j3 kq x5_46 a0_0 a0_1 a0_2 x149000_36 x149001_36 x149002_36 = some (r1, r2, r3, r4)) ∧ Aside0 (kq ≤ kj36) ∧ Aside0 (wc.heap[gb141]? = some (.cells #[.int .i64 a0_0, .int .i64 a0_1, .bool a0_2] 23 (0, 0))) ∧ Aside0 (wc.heap[gb142]? = some (.cells #[.int .i64 a1_0, .int .i64 a1_1, .int .u8 a1_2, (.slice A1_3 l1_3.length c1_3)] 26 (0, 0))) ∧ Aside0 (wc.heap[gb143]? = some (.cells #[.int .i64 x144000_46, .int .i64 x144001_46, .int .i64 x144002_46] 29 (0, 0))) ∧ Aside0 (wc.heap[gb148]? = some (.cells #[.int .i64 x149000_36, .int .i64 x149001_36, .int .u8 x149002_36] 33 (0, 0))) ∧ Aside0 (Below w.heap.size w wc))
       case first =>
        have H := HC47.out; clear HC47
        by_cases c48 : x7_36 = true
        ·subst c48
         have H1 : (plan_retry.j3 kj36 x5_36 a0_0 a0_1 a0_2 x149000_36 x149001_36 x149002_36) = some (r1, r2, r3, r4) := by rw [if_pos rfl] at H; exact H
         clear H; have H := H1; clear H1
         have H' := Aside0.mk H
         clear H; go_wp2; go_meet
         case rel => exact ⟨_, (x5_36), (x144000_2), (x144001_2), (x144002_2), (by first | rfl | (simp; done) | (simp [*]; done)), H', ⟨by have := HJ2.out; have := HJ16.out; have := HJ36.out; first | omega | exact Nat.le_refl _⟩, ⟨bq_ BK141⟩, ⟨bq_ BK142⟩, ⟨bq_ BK143⟩, ⟨bq_ BK148⟩, ⟨bh_ HB⟩⟩
        ·replace c48 := Bool.eq_false_iff.mpr c48
         subst c48
         have H1 : (some (0, 0, 0, false)) = some (r1, r2, r3, r4) := by rw [if_neg (show ¬ (false = true) by decide)] at H; exact H
         clear H; have H := H1; clear H1; simp only [Option.some.injEq, Prod.mk.injEq] at H; obtain ⟨rfl, rfl, rfl, rfl⟩ := H; have hnb49 := NB143_141.out; have hnc49 := NB141_143.out; have hnb50 := NB143_142.out; have hnc50 := NB142_143.out; have hnb51 := NB143_148.out; have hnc51 := NB148_143.out; obtain ⟨hcz52_0, hcz52_1, hcz52_2, hfz52_0, hfz52_1, hfz52_2⟩ := c3_ BK143; go_wp2
         refine bodyPost_ret (results_ct rfl _ _ gb143 29 #[.int .i64 0, .int .i64 0, .int .i64 0] (0, 0) _ rfl (bp_ BK143) Try.underlying29 rfl (by kernel_rfl)) rfl ?_
         exact ⟨by first | rfl | (simp [errW_none, errW_some] <;> rfl) | (simp [*, errW_none, errW_some] <;> rfl), bh_ HB⟩
       case rest =>
        clear HC47; (try clear c1); (try clear c2); (try clear p2); (try clear c3); (try clear c4); (try clear c5); (try clear p6); (try clear c7); (try clear c8); (try clear c10); (try clear c12); (try clear c12b0); (try clear c13); (try clear c14); (try clear c18); (try clear c19); (try clear c21); (try clear c25); (try clear c26); (try clear c27); (try clear c29); (try clear c30); (try clear c31); (try clear c32); (try clear c34); (try clear c35); (try clear c38); (try clear c48); (try clear c49); (try clear c50); (try clear c51); (try clear hcz11_0 hcz11_1 hcz11_2); (try clear hcz15_0 hcz15_1 hcz15_2); (try clear hcz20_0 hcz20_1 hcz20_2); (try clear hcz22_0 hcz22_1 hcz22_2 hcz22_3); (try clear hcz28_0 hcz28_1 hcz28_2); (try clear hcz33_0 hcz33_1 hcz33_2 hcz33_3); (try clear hcz36_0 hcz36_1 hcz36_2); (try clear hcz52_0 hcz52_1 hcz52_2); (try clear hcz9_0 hcz9_1 hcz9_2 hcz9_3); (try clear hfz11_0 hfz11_1 hfz11_2); (try clear hfz15_0 hfz15_1 hfz15_2); (try clear hfz20_0 hfz20_1 hfz20_2); (try clear hfz22_0 hfz22_1 hfz22_2 hfz22_3); (try clear hfz28_0 hfz28_1 hfz28_2); (try clear hfz33_0 hfz33_1 hfz33_2 hfz33_3); (try clear hfz36_0 hfz36_1 hfz36_2); (try clear hfz52_0 hfz52_1 hfz52_2); (try clear hfz9_0 hfz9_1 hfz9_2 hfz9_3); (try clear p2); (try clear p6); obtain ⟨kq, x5_46, x144000_46, x144001_46, x144002_46, rfl, HA, HJ46, BK141, BK142, BK143, BK148, HB⟩ := hcut
        cases kq with
        | zero => exact absurd HA.out (by simp [plan_retry.j3])
        | succ kj46 =>
         have H := HA.out; clear HA; simp only [plan_retry.j3] at H; replace H := Option.bind_eq_some_iff.mp H; obtain ⟨⟨t154, t155⟩, A530, H⟩ := H
         replace H : (some (4, t154, t155, x5_46)) = some (r1, r2, r3, r4) := H
         have A53 := Aside0.mk A530; clear A530; simp only [Option.some.injEq, Prod.mk.injEq] at H; obtain ⟨rfl, rfl, rfl, rfl⟩ := H; have hnb54 := NB141_142.out; have hnc54 := NB142_141.out; have hnb55 := NB141_143.out; have hnc55 := NB143_141.out; have hnb56 := NB141_148.out; have hnc56 := NB148_141.out; obtain ⟨hcz57_0, hcz57_1, hcz57_2, hfz57_0, hfz57_1, hfz57_2⟩ := c3_ BK141; have hnb58 := NB148_142.out; have hnc58 := NB142_148.out; have hnb59 := NB148_143.out; have hnc59 := NB143_148.out; obtain ⟨hcz60_0, hcz60_1, hcz60_2, hfz60_0, hfz60_1, hfz60_2⟩ := c3_ BK148
         go_wp2_with (first | ((with_reducible refine gate_callee (f := 57) rfl ?_); refine gl_ (some 50) rfl rfl Try.func57 (by kernel_rfl) rfl #[.agg #[.int .i64 a0_0, .int .i64 a0_1, .bool a0_2], .agg #[.int .i64 x149000_36, .int .i64 x149001_36, .int .u8 x149002_36], .int .i64 0] rfl ?_; (with_reducible refine (plan_cut.calls a0_0 a0_1 a0_2 x149000_36 x149001_36 x149002_36 0 t154 t155 _ A53.out).mono ?_); rintro e w61 ⟨rfl, hb⟩; refine ⟨_, rfl, ?_⟩; replace BK141 := bb_ BK141 hb; replace BK142 := bb_ BK142 hb; replace BK143 := bb_ BK143 hb; replace BK148 := bb_ BK148 hb; replace HB := bs_ HB hb; (try clear hb); have hnb62 := NB143_142.out; have hnc62 := NB142_143.out; obtain ⟨hcz63_0, hcz63_1, hcz63_2, hfz63_0, hfz63_1, hfz63_2⟩ := c3_ BK143))
         refine bodyPost_ret (results_ct rfl _ _ gb143 29 #[.int .i64 4, .int .i64 t154, .int .i64 t155] (0, 0) _ rfl (bp_ BK143) Try.underlying29 rfl (by kernel_rfl)) rfl ?_
         exact ⟨by first | rfl | (simp [errW_none, errW_some] <;> rfl) | (simp [*, errW_none, errW_some] <;> rfl), bh_ HB⟩

end Go.Proofs.Ytnoilinjlelpaaa.P
