/- Laid by a program of this session's own (wip/wprint.py, over the kit's print.py): functions of the given program as plain Lean functions, and that the program's calls come to their answers. -/
import Derived.Test.YtnoilinjlelpaaaPx0
import Derived.Test.YtnoilinjlelpaaaPx7
import Derived.Test.YtnoilinjlelpaaaPx9
import Derived.Test.YtnoilinjlelpaaaPx10
namespace Go.Proofs.Ytnoilinjlelpaaa.P
open Go.RowKit Go.Proofs.YtnoilinjlelpaaaW.PrintWords Go.Proofs.YtnoilinjlelpaaaW.PrintLast Go.Proofs.YtnoilinjlelpaaaW.PrintMore
attribute [local go_sem] max2_int min2_int max_two min_two max_three min_three max_four min_four   -- for this text's walks alone
set_option linter.unusedVariables false
set_option linter.unusedSimpArgs false

/-! ### plan_next: function 35 -/
mutual
def plan_next.j2 : Nat → Int → Int → Bool → Int → Int → Int → List (S33) → Option (Int × Int × Int × Bool)
 | 0, _, _, _, _, _, _, _ => none
 | k + 1, x157000, x157001, x157002, x158000, x158001, x158002, x158003 => (plan_retry.f k x157000 x157001 x157002 x158000 x158001 x158002 x158003).bind fun bt172 => (some (bt172.1, bt172.2.1, bt172.2.2.1, bt172.2.2.2))
def plan_next.l0 : Nat → List (S75) → Int → Int → Int → Int → Bool → Int → Int → Int → List (S33) → Option (Int × Int × Int × Bool)
 | 0, _, _, _, _, _, _, _, _, _, _ => none
 | k + 1, x18, x19, x20, x157000, x157001, x157002, x158000, x158001, x158002, x158003 => if x20 < x19 then (plan_next.j1 k x18 x19 x20 x157000 x157001 x157002 x158000 x158001 x158002 x158003) else (plan_next.j2 k x157000 x157001 x157002 x158000 x158001 x158002 x158003)
def plan_next.j1 : Nat → List (S75) → Int → Int → Int → Int → Bool → Int → Int → Int → List (S33) → Option (Int × Int × Int × Bool)
 | 0, _, _, _, _, _, _, _, _, _, _ => none
 | k + 1, x18, x19, x20, x157000, x157001, x157002, x158000, x158001, x158002, x158003 => if 0 ≤ x20 then (if x20 < (x18.length : Int) then ((plan_edge.f k x157000 x157001 x157002 x158000 x158001 x158002 x158003).bind fun t164 => ((plan_seek.f k x157000 x157001 x157002 x158000 x158001 x158002 x158003 ((rd_T75 x18 x20).f1) t164).bind fun bt165 => (if bt165.2.2.2 = true then ((plan_cut.f x157000 x157001 x157002 bt165.1 bt165.2.1 bt165.2.2.1 ((rd_T75 x18 x20).f2)).bind fun bt170 => (some ((rd_T75 x18 x20).f0, bt170.1, bt170.2, false))) else (plan_next.l0 k x18 x19 (wrap64 (x20 + 1)) x157000 x157001 x157002 x158000 x158001 x158002 x158003)))) else (none)) else (none)
end
def plan_next.f (k : Nat) (a0_0 : Int) (a0_1 : Int) (a0_2 : Bool) (a1_0 : Int) (a1_1 : Int) (a1_2 : Int) (l1_3 : List (S33)) : Option (Int × Int × Int × Bool) := (some (([(⟨1, 63, wrap64 (a0_0 - 1)⟩ : S75), (⟨2, 42, 0⟩ : S75), (⟨3, 47, 0⟩ : S75)] : List (S75)) : List (S75))).bind fun y159 => (plan_next.l0 k y159 (y159.length : Int) 0 a0_0 a0_1 a0_2 a1_0 a1_1 a1_2 l1_3)
theorem plan_next.mono_l : ∀ k, (∀ y0 y1 y2 y3 y4 y5 y6, LeO (plan_next.j2 k y0 y1 y2 y3 y4 y5 y6) (plan_next.j2 (k + 1) y0 y1 y2 y3 y4 y5 y6)) ∧ (∀ y0 y1 y2 y3 y4 y5 y6 y7 y8 y9, LeO (plan_next.l0 k y0 y1 y2 y3 y4 y5 y6 y7 y8 y9) (plan_next.l0 (k + 1) y0 y1 y2 y3 y4 y5 y6 y7 y8 y9)) ∧ (∀ y0 y1 y2 y3 y4 y5 y6 y7 y8 y9, LeO (plan_next.j1 k y0 y1 y2 y3 y4 y5 y6 y7 y8 y9) (plan_next.j1 (k + 1) y0 y1 y2 y3 y4 y5 y6 y7 y8 y9))
 | 0 => ⟨fun _ _ _ _ _ _ _ r h => by simp [plan_next.j2] at h, fun _ _ _ _ _ _ _ _ _ _ r h => by simp [plan_next.l0] at h, fun _ _ _ _ _ _ _ _ _ _ r h => by simp [plan_next.j1] at h⟩
 | k + 1 => by
  obtain ⟨ih0, ih1, ih2⟩ := plan_next.mono_l k
  refine ⟨?_, ?_, ?_⟩
  all_goals intros
  all_goals first | unfold plan_next.j2 | unfold plan_next.l0 | unfold plan_next.j1
  all_goals repeat' first | (with_reducible exact ih0 _ _ _ _ _ _ _) | (with_reducible exact ih1 _ _ _ _ _ _ _ _ _ _) | (with_reducible exact ih2 _ _ _ _ _ _ _ _ _ _) | (with_reducible exact plan_edge.mono _ _ _ _ _ _ _ _) | (with_reducible exact plan_retry.mono _ _ _ _ _ _ _ _) | (with_reducible exact plan_seek.mono _ _ _ _ _ _ _ _ _ _) | (with_reducible exact LeO.refl _) | (with_reducible exact LeO.none _) | (with_reducible refine LeO.ite ?_ ?_) | (with_reducible refine LeO.bind ?_ (fun _ => ?_)) | exact ih0 _ _ _ _ _ _ _ | exact ih1 _ _ _ _ _ _ _ _ _ _ | exact ih2 _ _ _ _ _ _ _ _ _ _ | exact plan_edge.mono _ _ _ _ _ _ _ _ | exact plan_retry.mono _ _ _ _ _ _ _ _ | exact plan_seek.mono _ _ _ _ _ _ _ _ _ _ | exact LeO.none _ | refine LeO.ite ?_ ?_ | refine LeO.bind ?_ (fun _ => ?_)
theorem plan_next.mono : ∀ a0 a1 a2 a3 a4 a5 a6 k, LeO (plan_next.f k a0 a1 a2 a3 a4 a5 a6) (plan_next.f (k + 1) a0 a1 a2 a3 a4 a5 a6) := by
 intro a0 a1 a2 a3 a4 a5 a6 k
 obtain ⟨ih0, ih1, ih2⟩ := plan_next.mono_l k
 unfold plan_next.f
 repeat' first
   | (with_reducible exact ih0 _ _ _ _ _ _ _)
   | (with_reducible exact ih1 _ _ _ _ _ _ _ _ _ _)
   | (with_reducible exact ih2 _ _ _ _ _ _ _ _ _ _)
   | (with_reducible exact plan_edge.mono _ _ _ _ _ _ _ _)
   | (with_reducible exact plan_retry.mono _ _ _ _ _ _ _ _)
   | (with_reducible exact plan_seek.mono _ _ _ _ _ _ _ _ _ _)
   | (with_reducible exact LeO.refl _)
   | (with_reducible exact LeO.none _)
   | (with_reducible refine LeO.ite ?_ ?_)
   | (with_reducible refine LeO.bind ?_ (fun _ => ?_))
   | exact ih0 _ _ _ _ _ _ _
   | exact ih1 _ _ _ _ _ _ _ _ _ _
   | exact ih2 _ _ _ _ _ _ _ _ _ _
   | exact plan_edge.mono _ _ _ _ _ _ _ _
   | exact plan_retry.mono _ _ _ _ _ _ _ _
   | exact plan_seek.mono _ _ _ _ _ _ _ _ _ _
   | exact LeO.none _
   | refine LeO.ite ?_ ?_
   | refine LeO.bind ?_ (fun _ => ?_)
def plan_next.T4 : Bool × List (List Nat × List Nat) := (true, [([], []), ([], []), ([], []), ([2], [2]), ([], []), ([], []), ([4, 5], [4, 5]), ([0, 1, 3, 6, 6], [0, 1, 3, 6]), ([7], [7]), ([8], [8]), ([8], [8]), ([], []), ([11, 9, 7, 0, 1, 2, 3, 4, 5, 6, 7, 8, 9, 11], [9, 11]), ([10, 12, 0, 1, 2, 3, 4, 5, 6, 7, 8, 9, 10, 11, 12], [10])])
def plan_next.B4 : List Nat := [0, 0, 0, 4, 0, 0, 48, 127, 255, 511, 511, 0, 3071, 8191]
theorem plan_next.tab4 : rtab .any (opsOf Try.f35 4) = plan_next.T4 := by kernel_rfl
theorem plan_next.bits4 : waitsOk plan_next.T4.2 plan_next.B4 = true := by kernel_rfl
set_option maxHeartbeats 8000000 in
set_option maxRecDepth 100000 in
theorem plan_next.calls (k : Nat) (a0_0 : Int) (a0_1 : Int) (a0_2 : Bool) (a1_0 : Int) (a1_1 : Int) (a1_2 : Int) (A1_3 : Option Addr) (c1_3 : Nat) (l1_3 : List (S33)) (r1 : Int) (r2 : Int) (r3 : Int) (r4 : Bool) (w : World) (hr1_3 : Kd.C k33 w A1_3 l1_3.length l1_3) (hc1_3 : l1_3.length ≤ c1_3) (h : plan_next.f k a0_0 a0_1 a0_2 a1_0 a1_1 a1_2 l1_3 = some (r1, r2, r3, r4)) :
  Calls Try.prog 35 #[.agg #[.int .i64 a0_0, .int .i64 a0_1, .bool a0_2], .agg #[.int .i64 a1_0, .int .i64 a1_1, .int .u8 a1_2, .slice A1_3 l1_3.length c1_3]] w fun e w' => e = .returned (.tuple #[.agg #[.int .i64 r1, .int .i64 r2, .int .i64 r3], .bool r4]) ∧ Below w.heap.size w w' := by
 have hu23 := Try.underlying23; have hu26 := Try.underlying26; have hu29 := Try.underlying29; have hu75 := Try.underlying75; have hu33 := Try.underlying33; have HR1_3 := Aside0.mk hr1_3; have HC1_3 := Aside0.mk hc1_3; clear hr1_3 hc1_3
 have HB := Aside0.mk (Below.refl w.heap.size w)
 have H : ((some (([(⟨1, 63, wrap64 (a0_0 - 1)⟩ : S75), (⟨2, 42, 0⟩ : S75), (⟨3, 47, 0⟩ : S75)] : List (S75)) : List (S75))).bind fun y159 => (plan_next.l0 k y159 (y159.length : Int) 0 a0_0 a0_1 a0_2 a1_0 a1_1 a1_2 l1_3)) = some (r1, r2, r3, r4) := h
 clear h
 obtain ⟨y159, hy159⟩ : ∃ y_ : List (S75), y_ = (([(⟨1, 63, wrap64 (a0_0 - 1)⟩ : S75), (⟨2, 42, 0⟩ : S75), (⟨3, 47, 0⟩ : S75)] : List (S75))) := ⟨_, rfl⟩
 replace H : (plan_next.l0 k y159 (y159.length : Int) 0 a0_0 a0_1 a0_2 a1_0 a1_1 a1_2 l1_3) = some (r1, r2, r3, r4) := by first | (rw [hy159]; with_reducible exact H) | (have H2_ := (Option.bind_some _ _).symm.trans H; rw [hy159]; with_reducible exact H2_) | (have H2_ := (Option.bind_some _ _).symm.trans H; with_reducible exact H2_) | with_reducible exact H | (rw [hy159]; exact H) | exact H
 have Ny159 := Aside0.mk hy159; clear hy159; have HC3 := Aside0.mk H; clear H
 go_enter Try.func35, Try.ntmps35
 go_upto_block 0 with (first | ((with_reducible refine gate_dst (N := 2) rfl ?_); refine box_e 2 #[.int .i64 a0_0, .int .i64 a0_1, .bool a0_2] 23 ?_; intro gb156 hg w4 hbox hb; have BK156 := Aside0.mk hbox; have GW156 := bg_ HB hg; have GE156 := bg_ HB hg; replace HB := bs_ HB hb; clear hb hbox hg) | ((with_reducible refine gate_dst (N := 3) rfl ?_); refine box_e 3 #[.int .i64 a1_0, .int .i64 a1_1, .int .u8 a1_2, .slice A1_3 l1_3.length c1_3] 26 ?_; intro gb157 hg w5 hbox hb; have BK157 := Aside0.mk hbox; have GW157 := bg_ HB hg; have GE157 := bg_ HB hg; have NB156_157 := bn_ BK156 hg; have NB157_156 := bm_ BK156 hg; replace BK156 := bb_ BK156 hb; replace HB := bs_ HB hb; clear hb hbox hg) | ((with_reducible refine gate_dst (N := 4) rfl ?_); refine box_e 4 #[.int .i64 0, .int .i64 0, .int .i64 0] 29 ?_; intro gb158 hg w6 hbox hb; have BK158 := Aside0.mk hbox; have GW158 := bg_ HB hg; have GE158 := bg_ HB hg; have NB156_158 := bn_ BK156 hg; have NB158_156 := bm_ BK156 hg; have NB157_158 := bn_ BK157 hg; have NB158_157 := bm_ BK157 hg; replace BK156 := bb_ BK156 hb; replace BK157 := bb_ BK157 hb; replace HB := bs_ HB hb; clear hb hbox hg; have hnb7 := NB156_157.out; have hnc7 := NB157_156.out; have hnb8 := NB156_158.out; have hnc8 := NB158_156.out; obtain ⟨hcz9_0, hcz9_1, hcz9_2, hfz9_0, hfz9_1, hfz9_2⟩ := c3_ BK156) | ((with_reducible refine gate_dst (N := 18) rfl ?_); refine Kd.R_lit k75 _ 75 ?hg (N := 18) ?hd (xs := ([(⟨1, 63, wrap64 (a0_0 - 1)⟩ : S75), (⟨2, 42, 0⟩ : S75), (⟨3, 47, 0⟩ : S75)] : List (S75))) (inner := [.int .i64 1, .int .u8 63, .int .i64 (wrap64 (a0_0 - 1)), .int .i64 2, .int .u8 42, .int .i64 0, .int .i64 3, .int .u8 47, .int .i64 0]) (ok := fun _ => True) (okp := fun _ => True) ?hr ?hp (fun _ hk => hk) trivial (Below.refl _ _) (Nat.le_refl _) (by simp) ?_; (case hd => rfl); (case hg => rfl); (case hr => first | (go_simp; done) | (go_simp; rfl)); (case hp => exact (Reps.c3 (show Kd.M k75 _ _ _ (⟨1, 63, wrap64 (a0_0 - 1)⟩ : S75) [.int .i64 1, .int .u8 63, .int .i64 (wrap64 (a0_0 - 1))] from (k75_mkM _ _ _ (⟨1, 63, wrap64 (a0_0 - 1)⟩ : S75) )) (Reps.c3 (show Kd.M k75 _ _ _ (⟨2, 42, 0⟩ : S75) [.int .i64 2, .int .u8 42, .int .i64 0] from (k75_mkM _ _ _ (⟨2, 42, 0⟩ : S75) )) (Reps.c3 (show Kd.M k75 _ _ _ (⟨3, 47, 0⟩ : S75) [.int .i64 3, .int .u8 47, .int .i64 0] from (k75_mkM _ _ _ (⟨3, 47, 0⟩ : S75) )) (Reps.none _ _))))); intro v160 w10 ho11 hb hg_ hnew_; clear hg_ hnew_; (first | rw [← Ny159.out] at ho11 | (simp only [Int.reduceToNat] at ho11; rw [← Ny159.out] at ho11)); have HO161 := Aside0.mk (Kd.R_lower ho11 (below_size (bh_ HB))); replace BK156 := bb_ BK156 hb; replace BK157 := bb_ BK157 hb; replace BK158 := bb_ BK158 hb; replace HB := bs_ HB hb; clear hb ho11; obtain ⟨Ao12, co12, eo12⟩ := Kd.R_slice HO161.out; subst eo12))
 (try simp only [Act.put, List.setIfInBounds_toArray, List.set_cons_zero, List.set_cons_succ])
 go_cut [] (fun wc => ∃ (kq : Nat) (x159000_2 : Int) (x159001_2 : Int) (x159002_2 : Int), Aside0 (plan_next.j2 kq a0_0 a0_1 a0_2 a1_0 a1_1 a1_2 l1_3 = some (r1, r2, r3, r4)) ∧ Aside0 (kq ≤ k) ∧ Aside0 (wc.heap[gb156]? = some (.cells #[.int .i64 a0_0, .int .i64 a0_1, .bool a0_2] 23 (0, 0))) ∧ Aside0 (wc.heap[gb157]? = some (.cells #[.int .i64 a1_0, .int .i64 a1_1, .int .u8 a1_2, (.slice A1_3 l1_3.length c1_3)] 26 (0, 0))) ∧ Aside0 (wc.heap[gb158]? = some (.cells #[.int .i64 x159000_2, .int .i64 x159001_2, .int .i64 x159002_2] 29 (0, 0))) ∧ Aside0 (Below w.heap.size w wc))
 case first =>
  have H := HC3.out; clear HC3
  have H' := Aside0.mk H
  clear H; go_wp2
  go_loopg [20] k (fun kq v20 w' => ∃ (x20_1 : Int) (x159000_1 : Int) (x159001_1 : Int) (x159002_1 : Int), v20 = .int .i64 x20_1 ∧ Aside0 (plan_next.l0 kq y159 (y159.length : Int) x20_1 a0_0 a0_1 a0_2 a1_0 a1_1 a1_2 l1_3 = some (r1, r2, r3, r4)) ∧ Aside0 (kq ≤ k) ∧ Aside0 (Kd.R k75 75 w' w.heap.size (fun _ => True) (.slice Ao12 y159.length co12) y159) ∧ Aside0 (w'.heap[gb156]? = some (.cells #[.int .i64 a0_0, .int .i64 a0_1, .bool a0_2] 23 (0, 0))) ∧ Aside0 (w'.heap[gb157]? = some (.cells #[.int .i64 a1_0, .int .i64 a1_1, .int .u8 a1_2, (.slice A1_3 l1_3.length c1_3)] 26 (0, 0))) ∧ Aside0 (w'.heap[gb158]? = some (.cells #[.int .i64 x159000_1, .int .i64 x159001_1, .int .i64 x159002_1] 29 (0, 0))) ∧ Aside0 (Below w.heap.size w w'))
  case atStart => exact ⟨(0), (0), (0), (0), (by first | rfl | (simp; done) | (simp [*]; done)), H', ⟨Nat.le_refl _⟩, ⟨by (with_reducible repeat (first | apply Kd.R_alloc | apply Kd.R_drewN | apply Kd.R_drew)); exact HO161.out⟩, ⟨bq_ BK156⟩, ⟨bq_ BK157⟩, ⟨bq_ BK158⟩, ⟨bh_ HB⟩⟩
  case round =>
   clear H'
   (try clear c1); (try clear p2); (try clear c3); (try clear p6); (try clear c7); (try clear c8); (try clear hcz9_0 hcz9_1 hcz9_2 hfz9_0 hfz9_1 hfz9_2); obtain ⟨x20_1, x159000_1, x159001_1, x159002_1, rfl, HA, HK1, HO_18, BK156, BK157, BK158, HB⟩ := hrel
   cases gk with
   | zero => exact absurd HA.out (by simp [plan_next.l0])
   | succ k1 =>
    have H := HA.out; clear HA; simp only [plan_next.l0] at H; have HC13 := Aside0.mk H; clear H
    go_upto_if 21 with (fail)
    go_cut [] (fun wc => ∃ (kq : Nat), Aside0 (plan_next.j1 kq y159 (y159.length : Int) x20_1 a0_0 a0_1 a0_2 a1_0 a1_1 a1_2 l1_3 = some (r1, r2, r3, r4)) ∧ Aside0 (kq ≤ k1) ∧ Aside0 (Kd.R k75 75 wc w.heap.size (fun _ => True) (.slice Ao12 y159.length co12) y159) ∧ Aside0 (wc.heap[gb156]? = some (.cells #[.int .i64 a0_0, .int .i64 a0_1, .bool a0_2] 23 (0, 0))) ∧ Aside0 (wc.heap[gb157]? = some (.cells #[.int .i64 a1_0, .int .i64 a1_1, .int .u8 a1_2, (.slice A1_3 l1_3.length c1_3)] 26 (0, 0))) ∧ Aside0 (wc.heap[gb158]? = some (.cells #[.int .i64 x159000_1, .int .i64 x159001_1, .int .i64 x159002_1] 29 (0, 0))) ∧ Aside0 (Below w.heap.size w wc))
    case first =>
     have H := HC13.out; clear HC13
     by_cases c14 : x20_1 < (y159.length : Int)
     ·rw [if_pos c14] at H
      have c14b0 : decide (x20_1 < (y159.length : Int)) = true := decide_eq_true c14
      clear c14
      (first | rw [c14b0] | (simp only [i64_w, i32_w]; rw [c14b0]) | skip)
      have H' := Aside0.mk H
      clear H; go_wp2; go_meet
      case rel => exact ⟨_, H', ⟨by have := HK1.out; first | omega | exact Nat.le_refl _⟩, ⟨by (with_reducible repeat (first | apply Kd.R_alloc | apply Kd.R_drewN | apply Kd.R_drew)); exact HO_18.out⟩, ⟨bq_ BK156⟩, ⟨bq_ BK157⟩, ⟨bq_ BK158⟩, ⟨bh_ HB⟩⟩
     ·rw [if_neg c14] at H
      have c14b0 : decide (x20_1 < (y159.length : Int)) = false := decide_eq_false c14
      clear c14
      (first | rw [c14b0] | (simp only [i64_w, i32_w]; rw [c14b0]) | skip)
      have H' := Aside0.mk H
      clear H; go_wp2; go_meet
      case rel => exact ⟨_, (x159000_1), (x159001_1), (x159002_1), H', ⟨by have := HK1.out; first | omega | exact Nat.le_refl _⟩, ⟨bq_ BK156⟩, ⟨bq_ BK157⟩, ⟨bq_ BK158⟩, ⟨bh_ HB⟩⟩
    case rest =>
     clear HC13; (try clear c1); (try clear p2); (try clear c3); (try clear p6); (try clear c7); (try clear c8); (try clear c14); (try clear c14b0); (try clear hcz9_0 hcz9_1 hcz9_2 hfz9_0 hfz9_1 hfz9_2); (try clear p2); (try clear p6); obtain ⟨kq, HA, HJ12, HO_18, BK156, BK157, BK158, HB⟩ := hcut
     cases kq with
     | zero => exact absurd HA.out (by simp [plan_next.j1])
     | succ kj12 =>
      have H := HA.out; clear HA; simp only [plan_next.j1] at H
      by_cases c15 : 0 ≤ x20_1
      ·rw [if_pos c15] at H
       have c15b0 : decide (0 ≤ x20_1) = true := decide_eq_true c15
       clear c15
       by_cases c16 : x20_1 < (y159.length : Int)
       ·rw [if_pos c16] at H
        have c16b0 : decide (x20_1 < (y159.length : Int)) = true := decide_eq_true c16
        clear c16; replace H := Option.bind_eq_some_iff.mp H; obtain ⟨t164, A170, H⟩ := H
        replace H : ((plan_seek.f kj12 a0_0 a0_1 a0_2 a1_0 a1_1 a1_2 l1_3 ((rd_T75 y159 x20_1).f1) t164).bind fun bt165 => (if bt165.2.2.2 = true then ((plan_cut.f a0_0 a0_1 a0_2 bt165.1 bt165.2.1 bt165.2.2.1 ((rd_T75 y159 x20_1).f2)).bind fun bt170 => (some ((rd_T75 y159 x20_1).f0, bt170.1, bt170.2, false))) else (plan_next.l0 kj12 y159 (y159.length : Int) (wrap64 (x20_1 + 1)) a0_0 a0_1 a0_2 a1_0 a1_1 a1_2 l1_3))) = some (r1, r2, r3, r4) := H
        have A17 := Aside0.mk A170; clear A170; replace H := Option.bind_eq_some_iff.mp H; obtain ⟨⟨t165, t166, t167, t168⟩, A180, H⟩ := H
        replace H : (if t168 = true then ((plan_cut.f a0_0 a0_1 a0_2 t165 t166 t167 ((rd_T75 y159 x20_1).f2)).bind fun bt170 => (some ((rd_T75 y159 x20_1).f0, bt170.1, bt170.2, false))) else (plan_next.l0 kj12 y159 (y159.length : Int) (wrap64 (x20_1 + 1)) a0_0 a0_1 a0_2 a1_0 a1_1 a1_2 l1_3)) = some (r1, r2, r3, r4) := H
        have A18 := Aside0.mk A180; clear A180
        by_cases c19 : t168 = true
        ·subst c19
         have H1 : ((plan_cut.f a0_0 a0_1 a0_2 t165 t166 t167 ((rd_T75 y159 x20_1).f2)).bind fun bt170 => (some ((rd_T75 y159 x20_1).f0, bt170.1, bt170.2, false))) = some (r1, r2, r3, r4) := by rw [if_pos rfl] at H; exact H
         clear H; have H := H1; clear H1; replace H := Option.bind_eq_some_iff.mp H; obtain ⟨⟨t170, t171⟩, A200, H⟩ := H
         replace H : (some ((rd_T75 y159 x20_1).f0, t170, t171, false)) = some (r1, r2, r3, r4) := H
         have A20 := Aside0.mk A200; clear A200; simp only [Option.some.injEq, Prod.mk.injEq] at H; obtain ⟨rfl, rfl, rfl, rfl⟩ := H
         have p162 : 0 ≤ (x20_1 : Int) := of_decide_eq_true (by first | (with_reducible assumption) | assumption)
         have q162 : x20_1 < (y159.length : Int) := of_decide_eq_true (by first | (with_reducible assumption) | assumption)
         obtain ⟨ad162, e162, hx162_0, hx162_1, hx162_2⟩ := at_T75 (Kd.R_reads' HO_18.out).2.2 x20_1 p162 q162
         cases e162; replace p162 := eq_true p162; replace q162 := eq_true q162
         try go_wp2_with (first | ((with_reducible refine gate_dst (N := 7) rfl ?_); refine box_e 7 #[.int .i64 0, .int .u8 0, .int .i64 0] 75 ?_; intro gb163 hg w21 hbox hb; have n0_ := Aside0.mk (Kd.R_below (Kd.R_elderB (by (with_reducible repeat (first | apply Kd.R_alloc | apply Kd.R_drewN | apply Kd.R_drew)); exact HO_18.out) gb163 (Nat.le_of_eq hg.symm)) hb); have n1_ := bb_ BK156 hb; have n2_ := bb_ BK157 hb; have n3_ := bb_ BK158 hb; have n4_ := bs_ HB hb; have n5_ := Aside0.mk hbox; have n6_ := bg_ HB hg; have n7_ := bg_ HB hg; have n8_ := bn_ BK156 hg; have n9_ := bm_ BK156 hg; have n10_ := bn_ BK157 hg; have n11_ := bm_ BK157 hg; have n12_ := bn_ BK158 hg; have n13_ := bm_ BK158 hg; clear HO_18; clear BK156; clear BK157; clear BK158; clear HB; have HO_18 := n0_; have BK156 := n1_; have BK157 := n2_; have BK158 := n3_; have HB := n4_; have BK163 := n5_; have GW163 := n6_; have GE163 := n7_; have NB156_163 := n8_; have NB163_156 := n9_; have NB157_163 := n10_; have NB163_157 := n11_; have NB158_163 := n12_; have NB163_158 := n13_; clear n0_ n1_ n2_ n3_ n4_ n5_ n6_ n7_ n8_ n9_ n10_ n11_ n12_ n13_; clear hb hbox hg; have hnb22 := NB163_156.out; have hnc22 := NB156_163.out; have hnb23 := NB163_157.out; have hnc23 := NB157_163.out; have hnb24 := NB163_158.out; have hnc24 := NB158_163.out; obtain ⟨hcz25_0, hcz25_1, hcz25_2, hfz25_0, hfz25_1, hfz25_2⟩ := c3_ BK163))
         have n0_ : Aside0 (Kd.R k75 75 (((w21.setCell ⟨gb163, 0, none⟩ (.int .i64 ((rd_T75 y159 x20_1).f0))).setCell ⟨gb163, 1, none⟩ (.int .u8 ((rd_T75 y159 x20_1).f1))).setCell ⟨gb163, 2, none⟩ (.int .i64 ((rd_T75 y159 x20_1).f2))) w.heap.size (fun k_ => k_ ≠ gb163) (.slice (some ad162) y159.length co12) y159) := ⟨by (with_reducible repeat (first | apply Kd.R_alloc | apply Kd.R_drewN | apply Kd.R_drew)); exact Kd.R_mono (Kd.R_far (p := ⟨gb163, 2, none⟩) (Kd.R_far (p := ⟨gb163, 1, none⟩) (Kd.R_far (p := ⟨gb163, 0, none⟩) (Kd.R_mono HO_18.out (fun k_ hk => (⟨hk, hk.2⟩ : _ ∧ k_ ≠ gb163))) (fun _ hk => hk.2) (.int .i64 ((rd_T75 y159 x20_1).f0))) (fun _ hk => hk.2) (.int .u8 ((rd_T75 y159 x20_1).f1))) (fun _ hk => hk.2) (.int .i64 ((rd_T75 y159 x20_1).f2))) (fun _ hk => hk.1.2)⟩
         have n1_ : Aside0 ((((w21.setCell ⟨gb163, 0, none⟩ (.int .i64 ((rd_T75 y159 x20_1).f0))).setCell ⟨gb163, 1, none⟩ (.int .u8 ((rd_T75 y159 x20_1).f1))).setCell ⟨gb163, 2, none⟩ (.int .i64 ((rd_T75 y159 x20_1).f2))).heap[gb156]? = some (.cells #[.int .i64 a0_0, .int .i64 a0_1, .bool a0_2] 23 (0, 0))) := ⟨by (with_reducible repeat (first | refine blk_drewN ?_ _ | refine blk_drew ?_ | refine blk_alloc ?_ _)); refine blk_far ?_ NB156_163.out _; (with_reducible repeat (first | refine blk_drewN ?_ _ | refine blk_drew ?_ | refine blk_alloc ?_ _)); refine blk_far ?_ NB156_163.out _; (with_reducible repeat (first | refine blk_drewN ?_ _ | refine blk_drew ?_ | refine blk_alloc ?_ _)); refine blk_far ?_ NB156_163.out _; (with_reducible repeat (first | refine blk_drewN ?_ _ | refine blk_drew ?_ | refine blk_alloc ?_ _)); exact BK156.out⟩
         have n2_ : Aside0 ((((w21.setCell ⟨gb163, 0, none⟩ (.int .i64 ((rd_T75 y159 x20_1).f0))).setCell ⟨gb163, 1, none⟩ (.int .u8 ((rd_T75 y159 x20_1).f1))).setCell ⟨gb163, 2, none⟩ (.int .i64 ((rd_T75 y159 x20_1).f2))).heap[gb157]? = some (.cells #[.int .i64 a1_0, .int .i64 a1_1, .int .u8 a1_2, .slice A1_3 l1_3.length c1_3] 26 (0, 0))) := ⟨by (with_reducible repeat (first | refine blk_drewN ?_ _ | refine blk_drew ?_ | refine blk_alloc ?_ _)); refine blk_far ?_ NB157_163.out _; (with_reducible repeat (first | refine blk_drewN ?_ _ | refine blk_drew ?_ | refine blk_alloc ?_ _)); refine blk_far ?_ NB157_163.out _; (with_reducible repeat (first | refine blk_drewN ?_ _ | refine blk_drew ?_ | refine blk_alloc ?_ _)); refine blk_far ?_ NB157_163.out _; (with_reducible repeat (first | refine blk_drewN ?_ _ | refine blk_drew ?_ | refine blk_alloc ?_ _)); exact BK157.out⟩
         have n3_ : Aside0 ((((w21.setCell ⟨gb163, 0, none⟩ (.int .i64 ((rd_T75 y159 x20_1).f0))).setCell ⟨gb163, 1, none⟩ (.int .u8 ((rd_T75 y159 x20_1).f1))).setCell ⟨gb163, 2, none⟩ (.int .i64 ((rd_T75 y159 x20_1).f2))).heap[gb158]? = some (.cells #[.int .i64 x159000_1, .int .i64 x159001_1, .int .i64 x159002_1] 29 (0, 0))) := ⟨by (with_reducible repeat (first | refine blk_drewN ?_ _ | refine blk_drew ?_ | refine blk_alloc ?_ _)); refine blk_far ?_ NB158_163.out _; (with_reducible repeat (first | refine blk_drewN ?_ _ | refine blk_drew ?_ | refine blk_alloc ?_ _)); refine blk_far ?_ NB158_163.out _; (with_reducible repeat (first | refine blk_drewN ?_ _ | refine blk_drew ?_ | refine blk_alloc ?_ _)); refine blk_far ?_ NB158_163.out _; (with_reducible repeat (first | refine blk_drewN ?_ _ | refine blk_drew ?_ | refine blk_alloc ?_ _)); exact BK158.out⟩
         have n4_ : Aside0 ((((w21.setCell ⟨gb163, 0, none⟩ (.int .i64 ((rd_T75 y159 x20_1).f0))).setCell ⟨gb163, 1, none⟩ (.int .u8 ((rd_T75 y159 x20_1).f1))).setCell ⟨gb163, 2, none⟩ (.int .i64 ((rd_T75 y159 x20_1).f2))).heap[gb163]? = some (.cells #[.int .i64 ((rd_T75 y159 x20_1).f0), .int .u8 ((rd_T75 y159 x20_1).f1), .int .i64 ((rd_T75 y159 x20_1).f2)] 75 (0, 0))) := ⟨by (with_reducible repeat (first | refine blk_drewN ?_ _ | refine blk_drew ?_ | refine blk_alloc ?_ _)); refine blk_put (cs := #[.int .i64 ((rd_T75 y159 x20_1).f0), .int .u8 ((rd_T75 y159 x20_1).f1), .int .i64 0]) ?_ 2 _ rfl; (with_reducible repeat (first | refine blk_drewN ?_ _ | refine blk_drew ?_ | refine blk_alloc ?_ _)); refine blk_put (cs := #[.int .i64 ((rd_T75 y159 x20_1).f0), .int .u8 0, .int .i64 0]) ?_ 1 _ rfl; (with_reducible repeat (first | refine blk_drewN ?_ _ | refine blk_drew ?_ | refine blk_alloc ?_ _)); refine blk_put (cs := #[.int .i64 0, .int .u8 0, .int .i64 0]) ?_ 0 _ rfl; (with_reducible repeat (first | refine blk_drewN ?_ _ | refine blk_drew ?_ | refine blk_alloc ?_ _)); exact BK163.out⟩
         have n5_ : Aside0 (Below w.heap.size w (((w21.setCell ⟨gb163, 0, none⟩ (.int .i64 ((rd_T75 y159 x20_1).f0))).setCell ⟨gb163, 1, none⟩ (.int .u8 ((rd_T75 y159 x20_1).f1))).setCell ⟨gb163, 2, none⟩ (.int .i64 ((rd_T75 y159 x20_1).f2)))) := ⟨bh_ HB⟩
         (try clear HO_18)
         (try clear BK156)
         (try clear BK157)
         (try clear BK158)
         (try clear BK163)
         (try clear HB)
         generalize (((w21.setCell ⟨gb163, 0, none⟩ (.int .i64 ((rd_T75 y159 x20_1).f0))).setCell ⟨gb163, 1, none⟩ (.int .u8 ((rd_T75 y159 x20_1).f1))).setCell ⟨gb163, 2, none⟩ (.int .i64 ((rd_T75 y159 x20_1).f2))) = w26 at n0_ n1_ n2_ n3_ n4_ n5_ ⊢
         have HO_18 := n0_; have BK156 := n1_; have BK157 := n2_; have BK158 := n3_; have BK163 := n4_; have HB := n5_; clear n0_ n1_ n2_ n3_ n4_ n5_
         replace HO_18 := Aside0.mk (Kd.R_drew HO_18.out)
         replace BK156 := Aside0.mk (blk_drew BK156.out)
         replace BK157 := Aside0.mk (blk_drew BK157.out)
         replace BK158 := Aside0.mk (blk_drew BK158.out)
         replace BK163 := Aside0.mk (blk_drew BK163.out)
         replace HB := Aside0.mk (below_drew1 HB.out)
         refine start_ (n := 14) (S := fun w' => w'.cell? ⟨gb156, 0, none⟩ = some (.int .i64 a0_0) ∧ w'.cell? ⟨gb156, 1, none⟩ = some (.int .i64 a0_1) ∧ w'.cell? ⟨gb156, 2, none⟩ = some (.bool a0_2) ∧ w'.cell? ⟨gb157, 0, none⟩ = some (.int .i64 a1_0) ∧ w'.cell? ⟨gb157, 1, none⟩ = some (.int .i64 a1_1) ∧ w'.cell? ⟨gb157, 2, none⟩ = some (.int .u8 a1_2) ∧ w'.cell? ⟨gb157, 3, none⟩ = some (.slice A1_3 l1_3.length c1_3) ∧ w'.cell? ⟨gb163, 0, none⟩ = some (.int .i64 ((rd_T75 y159 x20_1).f0)) ∧ w'.cell? ⟨gb163, 1, none⟩ = some (.int .u8 ((rd_T75 y159 x20_1).f1)) ∧ w'.cell? ⟨gb163, 2, none⟩ = some (.int .i64 ((rd_T75 y159 x20_1).f2))) (ds := []) #[false, false, false, false, false, false, false, false, false, false, false, false, false, false] (by kernel_rfl) rfl rfl (a3_ (k3_ BK156) (a4_ (k4_ BK157) (k3_ BK163))) (fun hHeld => ?_); refine with_tabW plan_next.tab4 plan_next.bits4 (fun HT_ HW_ => ?_)
         generalize w26.drew = w27 at HO_18 BK156 BK157 BK158 BK163 HB hHeld ⊢
         refine pu_ 2 27 (lb_ 14 4) rfl rfl (ao_ HT_) ?_
         refine tk_ 0 25 (lb_ 14 5) rfl rfl (take_ofW HT_.out HW_.out (by kernel_rfl)) hHeld ?_
         refine tk_ 1 26 (lb_ 14 7) rfl rfl (take_ofW HT_.out HW_.out (by kernel_rfl)) hHeld ?_
         refine tk_ 3 28 (lb_ 14 15) rfl rfl (take_ofW HT_.out HW_.out (by kernel_rfl)) hHeld ?_
         refine tk_ 4 29 (lb_ 14 31) rfl rfl (take_ofW HT_.out HW_.out (by kernel_rfl)) hHeld ?_
         refine tk_ 5 30 (lb_ 14 63) rfl rfl (take_ofW HT_.out HW_.out (by kernel_rfl)) hHeld ?_
         refine join_ (σ := Nat) 2 #[true, true, true, true, true, true, true, true, true, true, true, true, false, false] (fun s_ => [(31, .int .i64 t164), (32, .tuple #[.agg #[.int .i64 t165, .int .i64 t166, .int .u8 t167], .bool true]), (8, .pointer (some ⟨s_, 0, none⟩)), (24, .tuple #[.agg #[.int .i64 t165, .int .i64 t166, .int .u8 t167], .bool true]), (33, .agg #[.int .i64 t165, .int .i64 t166, .int .u8 t167]), (34, .bool true)]) (fun s_ w' => (w'.cell? ⟨gb156, 0, none⟩ = some (.int .i64 a0_0) ∧ w'.cell? ⟨gb156, 1, none⟩ = some (.int .i64 a0_1) ∧ w'.cell? ⟨gb156, 2, none⟩ = some (.bool a0_2) ∧ w'.cell? ⟨gb157, 0, none⟩ = some (.int .i64 a1_0) ∧ w'.cell? ⟨gb157, 1, none⟩ = some (.int .i64 a1_1) ∧ w'.cell? ⟨gb157, 2, none⟩ = some (.int .u8 a1_2) ∧ w'.cell? ⟨gb157, 3, none⟩ = some (.slice A1_3 l1_3.length c1_3) ∧ w'.cell? ⟨gb163, 0, none⟩ = some (.int .i64 ((rd_T75 y159 x20_1).f0)) ∧ w'.cell? ⟨gb163, 1, none⟩ = some (.int .u8 ((rd_T75 y159 x20_1).f1)) ∧ w'.cell? ⟨gb163, 2, none⟩ = some (.int .i64 ((rd_T75 y159 x20_1).f2))) ∧ (Kd.R k75 75 w' w.heap.size (fun k_ => k_ ≠ gb163) (.slice (some ad162) y159.length co12) y159) ∧ (w'.heap[gb156]? = some (.cells #[.int .i64 a0_0, .int .i64 a0_1, .bool a0_2] 23 (0, 0))) ∧ (w'.heap[gb157]? = some (.cells #[.int .i64 a1_0, .int .i64 a1_1, .int .u8 a1_2, .slice A1_3 l1_3.length c1_3] 26 (0, 0))) ∧ (w'.heap[gb158]? = some (.cells #[.int .i64 x159000_1, .int .i64 x159001_1, .int .i64 x159002_1] 29 (0, 0))) ∧ (w'.heap[gb163]? = some (.cells #[.int .i64 ((rd_T75 y159 x20_1).f0), .int .u8 ((rd_T75 y159 x20_1).f1), .int .i64 ((rd_T75 y159 x20_1).f2)] 75 (0, 0))) ∧ (w'.heap[s_]? = some (.cells #[.int .i64 0, .int .i64 0, .int .u8 0] 33 (0, 0))) ∧ (w.heap.size ≤ s_) ∧ (w.heap.size ≤ s_) ∧ (gb156 ≠ s_) ∧ (s_ ≠ gb156) ∧ (gb157 ≠ s_) ∧ (s_ ≠ gb157) ∧ (gb158 ≠ s_) ∧ (s_ ≠ gb158) ∧ (gb163 ≠ s_) ∧ (s_ ≠ gb163) ∧ (Below w.heap.size w w')) ?_ ?_
         rotate_left
         ·intro hCont
          refine two_ (i := 6) (j := 11) (Ni := some 31) (Nj := some 8) #[true, true, true, true, true, true, true, false, false, false, false, false, false, false] #[true, true, true, true, true, true, false, false, false, false, false, true, false, false] rfl rfl rfl rfl (two_of HT_.out (by kernel_rfl)) (by decide) (by decide) (fun K hK => ?_) (fun K hK => ?_)
          ·skip
           refine gq_ Try.func51 (by kernel_rfl) rfl #[.agg #[.int .i64 a0_0, .int .i64 a0_1, .bool a0_2], .agg #[.int .i64 a1_0, .int .i64 a1_1, .int .u8 a1_2, .slice A1_3 l1_3.length c1_3]] (by rfl) rfl rfl ?_
           with_reducible refine (plan_edge.calls kj12 a0_0 a0_1 a0_2 a1_0 a1_1 a1_2 _ _ l1_3 t164 _ ?side1 ?side2 A17.out).mono ?_
           (case side1 => exact cb_ HR1_3 HB)
           (case side2 => exact HC1_3.out)
           rintro e w28 ⟨rfl, hb⟩
           refine ⟨_, rfl, ?_⟩
           have n0_ := Aside0.mk (Kd.R_below (by (with_reducible repeat (first | apply Kd.R_alloc | apply Kd.R_drewN | apply Kd.R_drew)); exact HO_18.out) hb)
           have n1_ := bb_ BK156 hb; have n2_ := bb_ BK157 hb; have n3_ := bb_ BK158 hb; have n4_ := bb_ BK163 hb; have n5_ := bs_ HB hb; clear HO_18; clear BK156; clear BK157; clear BK158; clear BK163; clear HB; have HO_18 := n0_; have BK156 := n1_; have BK157 := n2_; have BK158 := n3_; have BK163 := n4_; have HB := n5_; clear n0_ n1_ n2_ n3_ n4_ n5_
           (try clear hb)
           refine hK.out _ _ (a3_ (k3_ BK156) (a4_ (k4_ BK157) (k3_ BK163))) (fun hHeld => ?_)
           clear hK K
           refine nm_ 31 ?_
           refine two_ (i := 7) (j := 11) (Ni := some 32) (Nj := some 8) #[true, true, true, true, true, true, true, true, false, false, false, false, false, false] #[true, true, true, true, true, true, true, false, false, false, false, true, false, false] rfl rfl rfl rfl (two_of HT_.out (by kernel_rfl)) (by decide) (by decide) (fun K hK => ?_) (fun K hK => ?_)
           ·skip
            refine gq_ Try.func56 (by kernel_rfl) rfl #[.agg #[.int .i64 a0_0, .int .i64 a0_1, .bool a0_2], .agg #[.int .i64 a1_0, .int .i64 a1_1, .int .u8 a1_2, .slice A1_3 l1_3.length c1_3], .int .u8 ((rd_T75 y159 x20_1).f1), .int .i64 t164] (by rfl) rfl rfl ?_
            with_reducible refine (plan_seek.calls kj12 a0_0 a0_1 a0_2 a1_0 a1_1 a1_2 _ _ l1_3 ((rd_T75 y159 x20_1).f1) t164 t165 t166 t167 true _ ?side1 ?side2 A18.out).mono ?_
            (case side1 => exact cb_ HR1_3 HB)
            (case side2 => exact HC1_3.out)
            rintro e w29 ⟨rfl, hb⟩
            refine ⟨_, rfl, ?_⟩
            have n0_ := Aside0.mk (Kd.R_below (by (with_reducible repeat (first | apply Kd.R_alloc | apply Kd.R_drewN | apply Kd.R_drew)); exact HO_18.out) hb)
            have n1_ := bb_ BK156 hb; have n2_ := bb_ BK157 hb; have n3_ := bb_ BK158 hb; have n4_ := bb_ BK163 hb; have n5_ := bs_ HB hb; clear HO_18; clear BK156; clear BK157; clear BK158; clear BK163; clear HB; have HO_18 := n0_; have BK156 := n1_; have BK157 := n2_; have BK158 := n3_; have BK163 := n4_; have HB := n5_; clear n0_ n1_ n2_ n3_ n4_ n5_
            (try clear hb)
            refine hK.out _ _ (a3_ (k3_ BK156) (a4_ (k4_ BK157) (k3_ BK163))) (fun hHeld => ?_)
            clear hK K
            refine nm_ 32 ?_
            refine pu_ 8 24 (lb_ 14 511) rfl rfl (ao_ HT_) ?_
            refine pu_ 9 33 (lb_ 14 1023) rfl rfl (ao_ HT_) ?_
            refine pu_ 10 34 (lb_ 14 2047) rfl rfl (ao_ HT_) ?_
            refine one_ (i := 11) (N := some 8) #[true, true, true, true, true, true, true, true, true, true, true, true, false, false] rfl rfl (one_of HT_.out (by kernel_rfl)) (by decide) (fun K hK => ?_)
            refine box_step ?hg (N := 8) ?hd (cs := #[.int .i64 0, .int .i64 0, .int .u8 0]) (t := 33) ?hr ?_; (case hd => rfl); (case hg => rfl); (case hr => first | (go_simp; done) | (go_simp; rfl))
            intro gb169 hg w30 hbox hb
            have n0_ := Aside0.mk (Kd.R_below (by (with_reducible repeat (first | apply Kd.R_alloc | apply Kd.R_drewN | apply Kd.R_drew)); exact HO_18.out) hb)
            have n1_ := bb_ BK156 hb; have n2_ := bb_ BK157 hb; have n3_ := bb_ BK158 hb; have n4_ := bb_ BK163 hb; have n5_ := bs_ HB hb; have n6_ := Aside0.mk hbox; have n7_ := bg_ HB hg; have n8_ := bg_ HB hg; have n9_ := bn_ BK156 hg; have n10_ := bm_ BK156 hg; have n11_ := bn_ BK157 hg; have n12_ := bm_ BK157 hg; have n13_ := bn_ BK158 hg; have n14_ := bm_ BK158 hg; have n15_ := bn_ BK163 hg; have n16_ := bm_ BK163 hg; clear HO_18; clear BK156; clear BK157; clear BK158; clear BK163; clear HB; have HO_18 := n0_; have BK156 := n1_; have BK157 := n2_; have BK158 := n3_; have BK163 := n4_; have HB := n5_; have BK169 := n6_; have GW169 := n7_; have GE169 := n8_; have NB156_169 := n9_; have NB169_156 := n10_; have NB157_169 := n11_; have NB169_157 := n12_; have NB158_169 := n13_; have NB169_158 := n14_; have NB163_169 := n15_; have NB169_163 := n16_; clear n0_ n1_ n2_ n3_ n4_ n5_ n6_ n7_ n8_ n9_ n10_ n11_ n12_ n13_ n14_ n15_ n16_; clear hb hbox hg
            refine hK.out _ _ (a3_ (k3_ BK156) (a4_ (k4_ BK157) (k3_ BK163))) (fun hHeld => ?_)
            clear hK K
            refine nm_ 8 ?_
            exact norm_ (by simp only [putAll, Act.put, List.setIfInBounds_toArray, List.set_cons_zero, List.set_cons_succ]) (hCont (gb169) _ ⟨hHeld, (by (with_reducible repeat (first | apply Kd.R_alloc | apply Kd.R_drewN | apply Kd.R_drew)); exact HO_18.out), (bq_ BK156), (bq_ BK157), (bq_ BK158), (bq_ BK163), (bq_ BK169), GW169.out, GE169.out, NB156_169.out, NB169_156.out, NB157_169.out, NB169_157.out, NB158_169.out, NB169_158.out, NB163_169.out, NB169_163.out, (bh_ HB)⟩)
           ·skip
            refine box_step ?hg (N := 8) ?hd (cs := #[.int .i64 0, .int .i64 0, .int .u8 0]) (t := 33) ?hr ?_; (case hd => rfl); (case hg => rfl); (case hr => first | (go_simp; done) | (go_simp; rfl))
            intro gb169 hg w29 hbox hb
            have n0_ := Aside0.mk (Kd.R_below (by (with_reducible repeat (first | apply Kd.R_alloc | apply Kd.R_drewN | apply Kd.R_drew)); exact HO_18.out) hb)
            have n1_ := bb_ BK156 hb; have n2_ := bb_ BK157 hb; have n3_ := bb_ BK158 hb; have n4_ := bb_ BK163 hb; have n5_ := bs_ HB hb; have n6_ := Aside0.mk hbox; have n7_ := bg_ HB hg; have n8_ := bg_ HB hg; have n9_ := bn_ BK156 hg; have n10_ := bm_ BK156 hg; have n11_ := bn_ BK157 hg; have n12_ := bm_ BK157 hg; have n13_ := bn_ BK158 hg; have n14_ := bm_ BK158 hg; have n15_ := bn_ BK163 hg; have n16_ := bm_ BK163 hg; clear HO_18; clear BK156; clear BK157; clear BK158; clear BK163; clear HB; have HO_18 := n0_; have BK156 := n1_; have BK157 := n2_; have BK158 := n3_; have BK163 := n4_; have HB := n5_; have BK169 := n6_; have GW169 := n7_; have GE169 := n8_; have NB156_169 := n9_; have NB169_156 := n10_; have NB157_169 := n11_; have NB169_157 := n12_; have NB158_169 := n13_; have NB169_158 := n14_; have NB163_169 := n15_; have NB169_163 := n16_; clear n0_ n1_ n2_ n3_ n4_ n5_ n6_ n7_ n8_ n9_ n10_ n11_ n12_ n13_ n14_ n15_ n16_; clear hb hbox hg
            refine hK.out _ _ (a3_ (k3_ BK156) (a4_ (k4_ BK157) (k3_ BK163))) (fun hHeld => ?_)
            clear hK K
            refine nm_ 8 ?_
            refine one_ (i := 7) (N := some 32) #[true, true, true, true, true, true, true, true, false, false, false, true, false, false] rfl rfl (one_of HT_.out (by kernel_rfl)) (by decide) (fun K hK => ?_)
            refine gq_ Try.func56 (by kernel_rfl) rfl #[.agg #[.int .i64 a0_0, .int .i64 a0_1, .bool a0_2], .agg #[.int .i64 a1_0, .int .i64 a1_1, .int .u8 a1_2, .slice A1_3 l1_3.length c1_3], .int .u8 ((rd_T75 y159 x20_1).f1), .int .i64 t164] (by rfl) rfl rfl ?_
            with_reducible refine (plan_seek.calls kj12 a0_0 a0_1 a0_2 a1_0 a1_1 a1_2 _ _ l1_3 ((rd_T75 y159 x20_1).f1) t164 t165 t166 t167 true _ ?side1 ?side2 A18.out).mono ?_
            (case side1 => exact cb_ HR1_3 HB)
            (case side2 => exact HC1_3.out)
            rintro e w30 ⟨rfl, hb⟩
            refine ⟨_, rfl, ?_⟩
            have n0_ := Aside0.mk (Kd.R_below (by (with_reducible repeat (first | apply Kd.R_alloc | apply Kd.R_drewN | apply Kd.R_drew)); exact HO_18.out) hb)
            have n1_ := bb_ BK156 hb; have n2_ := bb_ BK157 hb; have n3_ := bb_ BK158 hb; have n4_ := bb_ BK163 hb; have n5_ := bb_ BK169 hb; have n6_ := bs_ HB hb; clear HO_18; clear BK156; clear BK157; clear BK158; clear BK163; clear BK169; clear HB; have HO_18 := n0_; have BK156 := n1_; have BK157 := n2_; have BK158 := n3_; have BK163 := n4_; have BK169 := n5_; have HB := n6_; clear n0_ n1_ n2_ n3_ n4_ n5_ n6_
            (try clear hb)
            refine hK.out _ _ (a3_ (k3_ BK156) (a4_ (k4_ BK157) (k3_ BK163))) (fun hHeld => ?_)
            clear hK K
            refine nm_ 32 ?_
            refine pu_ 8 24 (lb_ 14 2559) rfl rfl (ao_ HT_) ?_
            refine pu_ 9 33 (lb_ 14 3071) rfl rfl (ao_ HT_) ?_
            refine pu_ 10 34 (lb_ 14 4095) rfl rfl (ao_ HT_) ?_
            exact norm_ (by simp only [putAll, Act.put, List.setIfInBounds_toArray, List.set_cons_zero, List.set_cons_succ]) (hCont (gb169) _ ⟨hHeld, (by (with_reducible repeat (first | apply Kd.R_alloc | apply Kd.R_drewN | apply Kd.R_drew)); exact HO_18.out), (bq_ BK156), (bq_ BK157), (bq_ BK158), (bq_ BK163), (bq_ BK169), GW169.out, GE169.out, NB156_169.out, NB169_156.out, NB157_169.out, NB169_157.out, NB158_169.out, NB169_158.out, NB163_169.out, NB169_163.out, (bh_ HB)⟩)
          ·skip
           refine box_step ?hg (N := 8) ?hd (cs := #[.int .i64 0, .int .i64 0, .int .u8 0]) (t := 33) ?hr ?_; (case hd => rfl); (case hg => rfl); (case hr => first | (go_simp; done) | (go_simp; rfl))
           intro gb169 hg w28 hbox hb
           have n0_ := Aside0.mk (Kd.R_below (by (with_reducible repeat (first | apply Kd.R_alloc | apply Kd.R_drewN | apply Kd.R_drew)); exact HO_18.out) hb)
           have n1_ := bb_ BK156 hb; have n2_ := bb_ BK157 hb; have n3_ := bb_ BK158 hb; have n4_ := bb_ BK163 hb; have n5_ := bs_ HB hb; have n6_ := Aside0.mk hbox; have n7_ := bg_ HB hg; have n8_ := bg_ HB hg; have n9_ := bn_ BK156 hg; have n10_ := bm_ BK156 hg; have n11_ := bn_ BK157 hg; have n12_ := bm_ BK157 hg; have n13_ := bn_ BK158 hg; have n14_ := bm_ BK158 hg; have n15_ := bn_ BK163 hg; have n16_ := bm_ BK163 hg; clear HO_18; clear BK156; clear BK157; clear BK158; clear BK163; clear HB; have HO_18 := n0_; have BK156 := n1_; have BK157 := n2_; have BK158 := n3_; have BK163 := n4_; have HB := n5_; have BK169 := n6_; have GW169 := n7_; have GE169 := n8_; have NB156_169 := n9_; have NB169_156 := n10_; have NB157_169 := n11_; have NB169_157 := n12_; have NB158_169 := n13_; have NB169_158 := n14_; have NB163_169 := n15_; have NB169_163 := n16_; clear n0_ n1_ n2_ n3_ n4_ n5_ n6_ n7_ n8_ n9_ n10_ n11_ n12_ n13_ n14_ n15_ n16_; clear hb hbox hg
           refine hK.out _ _ (a3_ (k3_ BK156) (a4_ (k4_ BK157) (k3_ BK163))) (fun hHeld => ?_)
           clear hK K
           refine nm_ 8 ?_
           refine one_ (i := 6) (N := some 31) #[true, true, true, true, true, true, true, false, false, false, false, true, false, false] rfl rfl (one_of HT_.out (by kernel_rfl)) (by decide) (fun K hK => ?_)
           refine gq_ Try.func51 (by kernel_rfl) rfl #[.agg #[.int .i64 a0_0, .int .i64 a0_1, .bool a0_2], .agg #[.int .i64 a1_0, .int .i64 a1_1, .int .u8 a1_2, .slice A1_3 l1_3.length c1_3]] (by rfl) rfl rfl ?_
           with_reducible refine (plan_edge.calls kj12 a0_0 a0_1 a0_2 a1_0 a1_1 a1_2 _ _ l1_3 t164 _ ?side1 ?side2 A17.out).mono ?_
           (case side1 => exact cb_ HR1_3 HB)
           (case side2 => exact HC1_3.out)
           rintro e w29 ⟨rfl, hb⟩
           refine ⟨_, rfl, ?_⟩
           have n0_ := Aside0.mk (Kd.R_below (by (with_reducible repeat (first | apply Kd.R_alloc | apply Kd.R_drewN | apply Kd.R_drew)); exact HO_18.out) hb)
           have n1_ := bb_ BK156 hb; have n2_ := bb_ BK157 hb; have n3_ := bb_ BK158 hb; have n4_ := bb_ BK163 hb; have n5_ := bb_ BK169 hb; have n6_ := bs_ HB hb; clear HO_18; clear BK156; clear BK157; clear BK158; clear BK163; clear BK169; clear HB; have HO_18 := n0_; have BK156 := n1_; have BK157 := n2_; have BK158 := n3_; have BK163 := n4_; have BK169 := n5_; have HB := n6_; clear n0_ n1_ n2_ n3_ n4_ n5_ n6_
           (try clear hb)
           refine hK.out _ _ (a3_ (k3_ BK156) (a4_ (k4_ BK157) (k3_ BK163))) (fun hHeld => ?_)
           clear hK K
           refine nm_ 31 ?_
           refine one_ (i := 7) (N := some 32) #[true, true, true, true, true, true, true, true, false, false, false, true, false, false] rfl rfl (one_of HT_.out (by kernel_rfl)) (by decide) (fun K hK => ?_)
           refine gq_ Try.func56 (by kernel_rfl) rfl #[.agg #[.int .i64 a0_0, .int .i64 a0_1, .bool a0_2], .agg #[.int .i64 a1_0, .int .i64 a1_1, .int .u8 a1_2, .slice A1_3 l1_3.length c1_3], .int .u8 ((rd_T75 y159 x20_1).f1), .int .i64 t164] (by rfl) rfl rfl ?_
           with_reducible refine (plan_seek.calls kj12 a0_0 a0_1 a0_2 a1_0 a1_1 a1_2 _ _ l1_3 ((rd_T75 y159 x20_1).f1) t164 t165 t166 t167 true _ ?side1 ?side2 A18.out).mono ?_
           (case side1 => exact cb_ HR1_3 HB)
           (case side2 => exact HC1_3.out)
           rintro e w30 ⟨rfl, hb⟩
           refine ⟨_, rfl, ?_⟩
           have n0_ := Aside0.mk (Kd.R_below (by (with_reducible repeat (first | apply Kd.R_alloc | apply Kd.R_drewN | apply Kd.R_drew)); exact HO_18.out) hb)
           have n1_ := bb_ BK156 hb; have n2_ := bb_ BK157 hb; have n3_ := bb_ BK158 hb; have n4_ := bb_ BK163 hb; have n5_ := bb_ BK169 hb; have n6_ := bs_ HB hb; clear HO_18; clear BK156; clear BK157; clear BK158; clear BK163; clear BK169; clear HB; have HO_18 := n0_; have BK156 := n1_; have BK157 := n2_; have BK158 := n3_; have BK163 := n4_; have BK169 := n5_; have HB := n6_; clear n0_ n1_ n2_ n3_ n4_ n5_ n6_
           (try clear hb)
           refine hK.out _ _ (a3_ (k3_ BK156) (a4_ (k4_ BK157) (k3_ BK163))) (fun hHeld => ?_)
           clear hK K
           refine nm_ 32 ?_
           refine pu_ 8 24 (lb_ 14 2559) rfl rfl (ao_ HT_) ?_
           refine pu_ 9 33 (lb_ 14 3071) rfl rfl (ao_ HT_) ?_
           refine pu_ 10 34 (lb_ 14 4095) rfl rfl (ao_ HT_) ?_
           exact norm_ (by simp only [putAll, Act.put, List.setIfInBounds_toArray, List.set_cons_zero, List.set_cons_succ]) (hCont (gb169) _ ⟨hHeld, (by (with_reducible repeat (first | apply Kd.R_alloc | apply Kd.R_drewN | apply Kd.R_drew)); exact HO_18.out), (bq_ BK156), (bq_ BK157), (bq_ BK158), (bq_ BK163), (bq_ BK169), GW169.out, GE169.out, NB156_169.out, NB169_156.out, NB157_169.out, NB169_157.out, NB158_169.out, NB169_158.out, NB163_169.out, NB169_163.out, (bh_ HB)⟩)
         rintro gb169 w31 ⟨hS_, h0_, h1_, h2_, h3_, h4_, h5_, h6_, h7_, h8_, h9_, h10_, h11_, h12_, h13_, h14_, h15_, h16_⟩
         have n0_ : Aside0 (Kd.R k75 75 w31 w.heap.size (fun k_ => k_ ≠ gb163) (.slice (some ad162) y159.length co12) y159) := ⟨h0_⟩
         have n1_ : Aside0 (w31.heap[gb156]? = some (.cells #[.int .i64 a0_0, .int .i64 a0_1, .bool a0_2] 23 (0, 0))) := ⟨h1_⟩
         have n2_ : Aside0 (w31.heap[gb157]? = some (.cells #[.int .i64 a1_0, .int .i64 a1_1, .int .u8 a1_2, .slice A1_3 l1_3.length c1_3] 26 (0, 0))) := ⟨h2_⟩
         have n3_ : Aside0 (w31.heap[gb158]? = some (.cells #[.int .i64 x159000_1, .int .i64 x159001_1, .int .i64 x159002_1] 29 (0, 0))) := ⟨h3_⟩
         have n4_ : Aside0 (w31.heap[gb163]? = some (.cells #[.int .i64 ((rd_T75 y159 x20_1).f0), .int .u8 ((rd_T75 y159 x20_1).f1), .int .i64 ((rd_T75 y159 x20_1).f2)] 75 (0, 0))) := ⟨h4_⟩
         have n5_ : Aside0 (w31.heap[gb169]? = some (.cells #[.int .i64 0, .int .i64 0, .int .u8 0] 33 (0, 0))) := ⟨h5_⟩
         have n6_ : Aside0 (w.heap.size ≤ gb169) := ⟨h6_⟩
         have n7_ : Aside0 (w.heap.size ≤ gb169) := ⟨h7_⟩
         have n8_ : Aside0 (gb156 ≠ gb169) := ⟨h8_⟩
         have n9_ : Aside0 (gb169 ≠ gb156) := ⟨h9_⟩
         have n10_ : Aside0 (gb157 ≠ gb169) := ⟨h10_⟩
         have n11_ : Aside0 (gb169 ≠ gb157) := ⟨h11_⟩
         have n12_ : Aside0 (gb158 ≠ gb169) := ⟨h12_⟩
         have n13_ : Aside0 (gb169 ≠ gb158) := ⟨h13_⟩
         have n14_ : Aside0 (gb163 ≠ gb169) := ⟨h14_⟩
         have n15_ : Aside0 (gb169 ≠ gb163) := ⟨h15_⟩
         have n16_ : Aside0 (Below w.heap.size w w31) := ⟨h16_⟩
         clear HO_18; clear BK156; clear BK157; clear BK158; clear BK163; clear HB; clear h0_ h1_ h2_ h3_ h4_ h5_ h6_ h7_ h8_ h9_ h10_ h11_ h12_ h13_ h14_ h15_ h16_; have HO_18 := n0_; have BK156 := n1_; have BK157 := n2_; have BK158 := n3_; have BK163 := n4_; have BK169 := n5_; have GW169 := n6_; have GE169 := n7_; have NB156_169 := n8_; have NB169_156 := n9_; have NB157_169 := n10_; have NB169_157 := n11_; have NB158_169 := n12_; have NB169_158 := n13_; have NB163_169 := n14_; have NB169_163 := n15_; have HB := n16_; clear n0_ n1_ n2_ n3_ n4_ n5_ n6_ n7_ n8_ n9_ n10_ n11_ n12_ n13_ n14_ n15_ n16_
         have hHeld : w31.cell? ⟨gb156, 0, none⟩ = some (.int .i64 a0_0) ∧ w31.cell? ⟨gb156, 1, none⟩ = some (.int .i64 a0_1) ∧ w31.cell? ⟨gb156, 2, none⟩ = some (.bool a0_2) ∧ w31.cell? ⟨gb157, 0, none⟩ = some (.int .i64 a1_0) ∧ w31.cell? ⟨gb157, 1, none⟩ = some (.int .i64 a1_1) ∧ w31.cell? ⟨gb157, 2, none⟩ = some (.int .u8 a1_2) ∧ w31.cell? ⟨gb157, 3, none⟩ = some (.slice A1_3 l1_3.length c1_3) ∧ w31.cell? ⟨gb163, 0, none⟩ = some (.int .i64 ((rd_T75 y159 x20_1).f0)) ∧ w31.cell? ⟨gb163, 1, none⟩ = some (.int .u8 ((rd_T75 y159 x20_1).f1)) ∧ w31.cell? ⟨gb163, 2, none⟩ = some (.int .i64 ((rd_T75 y159 x20_1).f2)) := hS_
         refine norm_ (a' := ?_) ?_ ?_
         rotate_left
         ·simp only [putAll, Act.put, List.setIfInBounds_toArray, List.set_cons_zero, List.set_cons_succ]
          rfl
         refine one_ (i := 12) (N := none) #[true, true, true, true, true, true, true, true, true, true, true, true, true, false] rfl rfl (one_of HT_.out (by kernel_rfl)) (by decide) (fun K hK => ?_)
         have hs32 : w31.cell? ⟨gb169, 0, none⟩ = some (.int .i64 0) := (blk_cell BK169.out 0).trans rfl
         have hfs32 := blk_frozen BK169.out 0; have hns32_0 := NB156_169.out; have hns32_1 := NB157_169.out; have hns32_2 := NB158_169.out; have hns32_3 := NB163_169.out; have hms32_0 := NB169_156.out; have hms32_1 := NB169_157.out; have hms32_2 := NB169_158.out; have hms32_3 := NB169_163.out
         have hs33 : w31.cell? ⟨gb169, 1, none⟩ = some (.int .i64 0) := (blk_cell BK169.out 1).trans rfl
         have hfs33 := blk_frozen BK169.out 1; have hns33_0 := NB156_169.out; have hns33_1 := NB157_169.out; have hns33_2 := NB158_169.out; have hns33_3 := NB163_169.out; have hms33_0 := NB169_156.out; have hms33_1 := NB169_157.out; have hms33_2 := NB169_158.out; have hms33_3 := NB169_163.out
         have hs34 : w31.cell? ⟨gb169, 2, none⟩ = some (.int .u8 0) := (blk_cell BK169.out 2).trans rfl
         have hfs34 := blk_frozen BK169.out 2; have hns34_0 := NB156_169.out; have hns34_1 := NB157_169.out; have hns34_2 := NB158_169.out; have hns34_3 := NB163_169.out; have hms34_0 := NB169_156.out; have hms34_1 := NB169_157.out; have hms34_2 := NB169_158.out; have hms34_3 := NB169_163.out
         refine skip_ (w1 := ?_) (by rfl) rfl ?_ ?_
         rotate_left
         ·go_simp
          rfl
         refine hK.out _ _ ⟨(cf_ NB156_169 ((cf_ NB156_169 ((cf_ NB156_169 (hHeld.1)))))), (cf_ NB156_169 ((cf_ NB156_169 ((cf_ NB156_169 (hHeld.2.1)))))), (cf_ NB156_169 ((cf_ NB156_169 ((cf_ NB156_169 (hHeld.2.2.1)))))), (cf_ NB157_169 ((cf_ NB157_169 ((cf_ NB157_169 (hHeld.2.2.2.1)))))), (cf_ NB157_169 ((cf_ NB157_169 ((cf_ NB157_169 (hHeld.2.2.2.2.1)))))), (cf_ NB157_169 ((cf_ NB157_169 ((cf_ NB157_169 (hHeld.2.2.2.2.2.1)))))), (cf_ NB157_169 ((cf_ NB157_169 ((cf_ NB157_169 (hHeld.2.2.2.2.2.2.1)))))), (cf_ NB163_169 ((cf_ NB163_169 ((cf_ NB163_169 (hHeld.2.2.2.2.2.2.2.1)))))), (cf_ NB163_169 ((cf_ NB163_169 ((cf_ NB163_169 (hHeld.2.2.2.2.2.2.2.2.1)))))), (cf_ NB163_169 ((cf_ NB163_169 ((cf_ NB163_169 (hHeld.2.2.2.2.2.2.2.2.2))))))⟩ (fun hHeld => ?_)
         clear hK K
         refine pu_ 13 9 (lb_ 14 16383) rfl rfl (ao_ HT_) ?_
         refine done_ (done_of HT_.out (by kernel_rfl)) ?_
         have hnb35 := NB156_157.out; have hnc35 := NB157_156.out; have hnb36 := NB156_158.out; have hnc36 := NB158_156.out; have hnb37 := NB156_169.out; have hnc37 := NB169_156.out; obtain ⟨hcz38_0, hcz38_1, hcz38_2, hfz38_0, hfz38_1, hfz38_2⟩ := c3_ BK156; have hnb39 := NB169_157.out; have hnc39 := NB157_169.out; have hnb40 := NB169_158.out; have hnc40 := NB158_169.out; have hnb41 := NB169_163.out; have hnc41 := NB163_169.out; obtain ⟨hcz42_0, hcz42_1, hcz42_2, hfz42_0, hfz42_1, hfz42_2⟩ := c3_ BK169; obtain ⟨hcz43_0, hcz43_1, hcz43_2, hfz43_0, hfz43_1, hfz43_2⟩ := c3_ BK163
         try go_wp2_with (first | ((with_reducible refine gate_callee (f := 57) rfl ?_); refine gl_ (some 41) rfl rfl Try.func57 (by kernel_rfl) rfl #[.agg #[.int .i64 a0_0, .int .i64 a0_1, .bool a0_2], .agg #[.int .i64 t165, .int .i64 t166, .int .u8 t167], .int .i64 ((rd_T75 y159 x20_1).f2)] rfl ?_; (with_reducible refine (plan_cut.calls a0_0 a0_1 a0_2 t165 t166 t167 ((rd_T75 y159 x20_1).f2) t170 t171 _ A20.out).mono ?_); rintro e w44 ⟨rfl, hb⟩; refine ⟨_, rfl, ?_⟩; have n0_ := Aside0.mk (Kd.R_below (by (with_reducible repeat (first | apply Kd.R_alloc | apply Kd.R_drewN | apply Kd.R_drew)); exact (Kd.R_mono (Kd.R_far (p := ⟨gb169, 2, none⟩) (Kd.R_far (p := ⟨gb169, 1, none⟩) (Kd.R_far (p := ⟨gb169, 0, none⟩) (Kd.R_types HO_18.out BK169.out (by decide)) (fun _ hk => hk.2) (.int .i64 t165)) (fun _ hk => hk.2) (.int .i64 t166)) (fun _ hk => hk.2) (.int .u8 t167)) (fun _ h_ => h_.1))) hb); have n1_ := Aside0.mk (blk_below (g := gb156) (o := .cells #[.int .i64 a0_0, .int .i64 a0_1, .bool a0_2] 23 (0, 0)) (bp_ BK156) hb); have n2_ := Aside0.mk (blk_below (g := gb157) (o := .cells #[.int .i64 a1_0, .int .i64 a1_1, .int .u8 a1_2, .slice A1_3 l1_3.length c1_3] 26 (0, 0)) (bp_ BK157) hb); have n3_ := Aside0.mk (blk_below (g := gb158) (o := .cells #[.int .i64 x159000_1, .int .i64 x159001_1, .int .i64 x159002_1] 29 (0, 0)) (bp_ BK158) hb); have n4_ := Aside0.mk (blk_below (g := gb163) (o := .cells #[.int .i64 ((rd_T75 y159 x20_1).f0), .int .u8 ((rd_T75 y159 x20_1).f1), .int .i64 ((rd_T75 y159 x20_1).f2)] 75 (0, 0)) (bp_ BK163) hb); have n5_ := Aside0.mk (blk_below (g := gb169) (o := .cells #[.int .i64 t165, .int .i64 t166, .int .u8 t167] 33 (0, 0)) (bp_ BK169) hb); have n6_ := bs_ HB hb; clear HO_18; clear BK156; clear BK157; clear BK158; clear BK163; clear BK169; clear HB; have HO_18 := n0_; have BK156 := n1_; have BK157 := n2_; have BK158 := n3_; have BK163 := n4_; have BK169 := n5_; have HB := n6_; clear n0_ n1_ n2_ n3_ n4_ n5_ n6_; (try clear hb); obtain ⟨hcz45_0, hcz45_1, hcz45_2, hfz45_0, hfz45_1, hfz45_2⟩ := c3_ BK163; have hnb46 := NB158_157.out; have hnc46 := NB157_158.out; obtain ⟨hcz47_0, hcz47_1, hcz47_2, hfz47_0, hfz47_1, hfz47_2⟩ := c3_ BK158))
         refine bodyPost_ret (results_ct rfl _ _ gb158 29 #[.int .i64 ((rd_T75 y159 x20_1).f0), .int .i64 t170, .int .i64 t171] (0, 0) _ rfl (bp_ BK158) Try.underlying29 rfl (by kernel_rfl)) rfl ?_
         exact ⟨by first | rfl | (simp [errW_none, errW_some] <;> rfl) | (simp [*, errW_none, errW_some] <;> rfl), bh_ HB⟩
        ·replace c19 := Bool.eq_false_iff.mpr c19
         subst c19
         have H1 : (plan_next.l0 kj12 y159 (y159.length : Int) (wrap64 (x20_1 + 1)) a0_0 a0_1 a0_2 a1_0 a1_1 a1_2 l1_3) = some (r1, r2, r3, r4) := by rw [if_neg (show ¬ (false = true) by decide)] at H; exact H
         clear H; have H := H1; clear H1
         have H' := Aside0.mk H
         clear H
         have p162 : 0 ≤ (x20_1 : Int) := of_decide_eq_true (by first | (with_reducible assumption) | assumption)
         have q162 : x20_1 < (y159.length : Int) := of_decide_eq_true (by first | (with_reducible assumption) | assumption)
         obtain ⟨ad162, e162, hx162_0, hx162_1, hx162_2⟩ := at_T75 (Kd.R_reads' HO_18.out).2.2 x20_1 p162 q162
         cases e162; replace p162 := eq_true p162; replace q162 := eq_true q162
         try go_wp2_with (first | ((with_reducible refine gate_dst (N := 7) rfl ?_); refine box_e 7 #[.int .i64 0, .int .u8 0, .int .i64 0] 75 ?_; intro gb163 hg w48 hbox hb; have n0_ := Aside0.mk (Kd.R_below (Kd.R_elderB (by (with_reducible repeat (first | apply Kd.R_alloc | apply Kd.R_drewN | apply Kd.R_drew)); exact HO_18.out) gb163 (Nat.le_of_eq hg.symm)) hb); have n1_ := bb_ BK156 hb; have n2_ := bb_ BK157 hb; have n3_ := bb_ BK158 hb; have n4_ := bs_ HB hb; have n5_ := Aside0.mk hbox; have n6_ := bg_ HB hg; have n7_ := bg_ HB hg; have n8_ := bn_ BK156 hg; have n9_ := bm_ BK156 hg; have n10_ := bn_ BK157 hg; have n11_ := bm_ BK157 hg; have n12_ := bn_ BK158 hg; have n13_ := bm_ BK158 hg; clear HO_18; clear BK156; clear BK157; clear BK158; clear HB; have HO_18 := n0_; have BK156 := n1_; have BK157 := n2_; have BK158 := n3_; have HB := n4_; have BK163 := n5_; have GW163 := n6_; have GE163 := n7_; have NB156_163 := n8_; have NB163_156 := n9_; have NB157_163 := n10_; have NB163_157 := n11_; have NB158_163 := n12_; have NB163_158 := n13_; clear n0_ n1_ n2_ n3_ n4_ n5_ n6_ n7_ n8_ n9_ n10_ n11_ n12_ n13_; clear hb hbox hg; have hnb49 := NB163_156.out; have hnc49 := NB156_163.out; have hnb50 := NB163_157.out; have hnc50 := NB157_163.out; have hnb51 := NB163_158.out; have hnc51 := NB158_163.out; obtain ⟨hcz52_0, hcz52_1, hcz52_2, hfz52_0, hfz52_1, hfz52_2⟩ := c3_ BK163))
         have n0_ : Aside0 (Kd.R k75 75 (((w48.setCell ⟨gb163, 0, none⟩ (.int .i64 ((rd_T75 y159 x20_1).f0))).setCell ⟨gb163, 1, none⟩ (.int .u8 ((rd_T75 y159 x20_1).f1))).setCell ⟨gb163, 2, none⟩ (.int .i64 ((rd_T75 y159 x20_1).f2))) w.heap.size (fun k_ => k_ ≠ gb163) (.slice (some ad162) y159.length co12) y159) := ⟨by (with_reducible repeat (first | apply Kd.R_alloc | apply Kd.R_drewN | apply Kd.R_drew)); exact Kd.R_mono (Kd.R_far (p := ⟨gb163, 2, none⟩) (Kd.R_far (p := ⟨gb163, 1, none⟩) (Kd.R_far (p := ⟨gb163, 0, none⟩) (Kd.R_mono HO_18.out (fun k_ hk => (⟨hk, hk.2⟩ : _ ∧ k_ ≠ gb163))) (fun _ hk => hk.2) (.int .i64 ((rd_T75 y159 x20_1).f0))) (fun _ hk => hk.2) (.int .u8 ((rd_T75 y159 x20_1).f1))) (fun _ hk => hk.2) (.int .i64 ((rd_T75 y159 x20_1).f2))) (fun _ hk => hk.1.2)⟩
         have n1_ : Aside0 ((((w48.setCell ⟨gb163, 0, none⟩ (.int .i64 ((rd_T75 y159 x20_1).f0))).setCell ⟨gb163, 1, none⟩ (.int .u8 ((rd_T75 y159 x20_1).f1))).setCell ⟨gb163, 2, none⟩ (.int .i64 ((rd_T75 y159 x20_1).f2))).heap[gb156]? = some (.cells #[.int .i64 a0_0, .int .i64 a0_1, .bool a0_2] 23 (0, 0))) := ⟨by (with_reducible repeat (first | refine blk_drewN ?_ _ | refine blk_drew ?_ | refine blk_alloc ?_ _)); refine blk_far ?_ NB156_163.out _; (with_reducible repeat (first | refine blk_drewN ?_ _ | refine blk_drew ?_ | refine blk_alloc ?_ _)); refine blk_far ?_ NB156_163.out _; (with_reducible repeat (first | refine blk_drewN ?_ _ | refine blk_drew ?_ | refine blk_alloc ?_ _)); refine blk_far ?_ NB156_163.out _; (with_reducible repeat (first | refine blk_drewN ?_ _ | refine blk_drew ?_ | refine blk_alloc ?_ _)); exact BK156.out⟩
         have n2_ : Aside0 ((((w48.setCell ⟨gb163, 0, none⟩ (.int .i64 ((rd_T75 y159 x20_1).f0))).setCell ⟨gb163, 1, none⟩ (.int .u8 ((rd_T75 y159 x20_1).f1))).setCell ⟨gb163, 2, none⟩ (.int .i64 ((rd_T75 y159 x20_1).f2))).heap[gb157]? = some (.cells #[.int .i64 a1_0, .int .i64 a1_1, .int .u8 a1_2, .slice A1_3 l1_3.length c1_3] 26 (0, 0))) := ⟨by (with_reducible repeat (first | refine blk_drewN ?_ _ | refine blk_drew ?_ | refine blk_alloc ?_ _)); refine blk_far ?_ NB157_163.out _; (with_reducible repeat (first | refine blk_drewN ?_ _ | refine blk_drew ?_ | refine blk_alloc ?_ _)); refine blk_far ?_ NB157_163.out _; (with_reducible repeat (first | refine blk_drewN ?_ _ | refine blk_drew ?_ | refine blk_alloc ?_ _)); refine blk_far ?_ NB157_163.out _; (with_reducible repeat (first | refine blk_drewN ?_ _ | refine blk_drew ?_ | refine blk_alloc ?_ _)); exact BK157.out⟩
         have n3_ : Aside0 ((((w48.setCell ⟨gb163, 0, none⟩ (.int .i64 ((rd_T75 y159 x20_1).f0))).setCell ⟨gb163, 1, none⟩ (.int .u8 ((rd_T75 y159 x20_1).f1))).setCell ⟨gb163, 2, none⟩ (.int .i64 ((rd_T75 y159 x20_1).f2))).heap[gb158]? = some (.cells #[.int .i64 x159000_1, .int .i64 x159001_1, .int .i64 x159002_1] 29 (0, 0))) := ⟨by (with_reducible repeat (first | refine blk_drewN ?_ _ | refine blk_drew ?_ | refine blk_alloc ?_ _)); refine blk_far ?_ NB158_163.out _; (with_reducible repeat (first | refine blk_drewN ?_ _ | refine blk_drew ?_ | refine blk_alloc ?_ _)); refine blk_far ?_ NB158_163.out _; (with_reducible repeat (first | refine blk_drewN ?_ _ | refine blk_drew ?_ | refine blk_alloc ?_ _)); refine blk_far ?_ NB158_163.out _; (with_reducible repeat (first | refine blk_drewN ?_ _ | refine blk_drew ?_ | refine blk_alloc ?_ _)); exact BK158.out⟩
         have n4_ : Aside0 ((((w48.setCell ⟨gb163, 0, none⟩ (.int .i64 ((rd_T75 y159 x20_1).f0))).setCell ⟨gb163, 1, none⟩ (.int .u8 ((rd_T75 y159 x20_1).f1))).setCell ⟨gb163, 2, none⟩ (.int .i64 ((rd_T75 y159 x20_1).f2))).heap[gb163]? = some (.cells #[.int .i64 ((rd_T75 y159 x20_1).f0), .int .u8 ((rd_T75 y159 x20_1).f1), .int .i64 ((rd_T75 y159 x20_1).f2)] 75 (0, 0))) := ⟨by (with_reducible repeat (first | refine blk_drewN ?_ _ | refine blk_drew ?_ | refine blk_alloc ?_ _)); refine blk_put (cs := #[.int .i64 ((rd_T75 y159 x20_1).f0), .int .u8 ((rd_T75 y159 x20_1).f1), .int .i64 0]) ?_ 2 _ rfl; (with_reducible repeat (first | refine blk_drewN ?_ _ | refine blk_drew ?_ | refine blk_alloc ?_ _)); refine blk_put (cs := #[.int .i64 ((rd_T75 y159 x20_1).f0), .int .u8 0, .int .i64 0]) ?_ 1 _ rfl; (with_reducible repeat (first | refine blk_drewN ?_ _ | refine blk_drew ?_ | refine blk_alloc ?_ _)); refine blk_put (cs := #[.int .i64 0, .int .u8 0, .int .i64 0]) ?_ 0 _ rfl; (with_reducible repeat (first | refine blk_drewN ?_ _ | refine blk_drew ?_ | refine blk_alloc ?_ _)); exact BK163.out⟩
         have n5_ : Aside0 (Below w.heap.size w (((w48.setCell ⟨gb163, 0, none⟩ (.int .i64 ((rd_T75 y159 x20_1).f0))).setCell ⟨gb163, 1, none⟩ (.int .u8 ((rd_T75 y159 x20_1).f1))).setCell ⟨gb163, 2, none⟩ (.int .i64 ((rd_T75 y159 x20_1).f2)))) := ⟨bh_ HB⟩
         (try clear HO_18)
         (try clear BK156)
         (try clear BK157)
         (try clear BK158)
         (try clear BK163)
         (try clear HB)
         generalize (((w48.setCell ⟨gb163, 0, none⟩ (.int .i64 ((rd_T75 y159 x20_1).f0))).setCell ⟨gb163, 1, none⟩ (.int .u8 ((rd_T75 y159 x20_1).f1))).setCell ⟨gb163, 2, none⟩ (.int .i64 ((rd_T75 y159 x20_1).f2))) = w53 at n0_ n1_ n2_ n3_ n4_ n5_ ⊢
         have HO_18 := n0_; have BK156 := n1_; have BK157 := n2_; have BK158 := n3_; have BK163 := n4_; have HB := n5_; clear n0_ n1_ n2_ n3_ n4_ n5_
         replace HO_18 := Aside0.mk (Kd.R_drew HO_18.out)
         replace BK156 := Aside0.mk (blk_drew BK156.out)
         replace BK157 := Aside0.mk (blk_drew BK157.out)
         replace BK158 := Aside0.mk (blk_drew BK158.out)
         replace BK163 := Aside0.mk (blk_drew BK163.out)
         replace HB := Aside0.mk (below_drew1 HB.out)
         refine start_ (n := 14) (S := fun w' => w'.cell? ⟨gb156, 0, none⟩ = some (.int .i64 a0_0) ∧ w'.cell? ⟨gb156, 1, none⟩ = some (.int .i64 a0_1) ∧ w'.cell? ⟨gb156, 2, none⟩ = some (.bool a0_2) ∧ w'.cell? ⟨gb157, 0, none⟩ = some (.int .i64 a1_0) ∧ w'.cell? ⟨gb157, 1, none⟩ = some (.int .i64 a1_1) ∧ w'.cell? ⟨gb157, 2, none⟩ = some (.int .u8 a1_2) ∧ w'.cell? ⟨gb157, 3, none⟩ = some (.slice A1_3 l1_3.length c1_3) ∧ w'.cell? ⟨gb163, 0, none⟩ = some (.int .i64 ((rd_T75 y159 x20_1).f0)) ∧ w'.cell? ⟨gb163, 1, none⟩ = some (.int .u8 ((rd_T75 y159 x20_1).f1)) ∧ w'.cell? ⟨gb163, 2, none⟩ = some (.int .i64 ((rd_T75 y159 x20_1).f2))) (ds := []) #[false, false, false, false, false, false, false, false, false, false, false, false, false, false] (by kernel_rfl) rfl rfl (a3_ (k3_ BK156) (a4_ (k4_ BK157) (k3_ BK163))) (fun hHeld => ?_); refine with_tabW plan_next.tab4 plan_next.bits4 (fun HT_ HW_ => ?_)
         generalize w53.drew = w54 at HO_18 BK156 BK157 BK158 BK163 HB hHeld ⊢
         refine pu_ 2 27 (lb_ 14 4) rfl rfl (ao_ HT_) ?_
         refine tk_ 0 25 (lb_ 14 5) rfl rfl (take_ofW HT_.out HW_.out (by kernel_rfl)) hHeld ?_
         refine tk_ 1 26 (lb_ 14 7) rfl rfl (take_ofW HT_.out HW_.out (by kernel_rfl)) hHeld ?_
         refine tk_ 3 28 (lb_ 14 15) rfl rfl (take_ofW HT_.out HW_.out (by kernel_rfl)) hHeld ?_
         refine tk_ 4 29 (lb_ 14 31) rfl rfl (take_ofW HT_.out HW_.out (by kernel_rfl)) hHeld ?_
         refine tk_ 5 30 (lb_ 14 63) rfl rfl (take_ofW HT_.out HW_.out (by kernel_rfl)) hHeld ?_
         refine join_ (σ := Nat) 2 #[true, true, true, true, true, true, true, true, true, true, true, true, false, false] (fun s_ => [(31, .int .i64 t164), (32, .tuple #[.agg #[.int .i64 t165, .int .i64 t166, .int .u8 t167], .bool false]), (8, .pointer (some ⟨s_, 0, none⟩)), (24, .tuple #[.agg #[.int .i64 t165, .int .i64 t166, .int .u8 t167], .bool false]), (33, .agg #[.int .i64 t165, .int .i64 t166, .int .u8 t167]), (34, .bool false)]) (fun s_ w' => (w'.cell? ⟨gb156, 0, none⟩ = some (.int .i64 a0_0) ∧ w'.cell? ⟨gb156, 1, none⟩ = some (.int .i64 a0_1) ∧ w'.cell? ⟨gb156, 2, none⟩ = some (.bool a0_2) ∧ w'.cell? ⟨gb157, 0, none⟩ = some (.int .i64 a1_0) ∧ w'.cell? ⟨gb157, 1, none⟩ = some (.int .i64 a1_1) ∧ w'.cell? ⟨gb157, 2, none⟩ = some (.int .u8 a1_2) ∧ w'.cell? ⟨gb157, 3, none⟩ = some (.slice A1_3 l1_3.length c1_3) ∧ w'.cell? ⟨gb163, 0, none⟩ = some (.int .i64 ((rd_T75 y159 x20_1).f0)) ∧ w'.cell? ⟨gb163, 1, none⟩ = some (.int .u8 ((rd_T75 y159 x20_1).f1)) ∧ w'.cell? ⟨gb163, 2, none⟩ = some (.int .i64 ((rd_T75 y159 x20_1).f2))) ∧ (Kd.R k75 75 w' w.heap.size (fun k_ => k_ ≠ gb163) (.slice (some ad162) y159.length co12) y159) ∧ (w'.heap[gb156]? = some (.cells #[.int .i64 a0_0, .int .i64 a0_1, .bool a0_2] 23 (0, 0))) ∧ (w'.heap[gb157]? = some (.cells #[.int .i64 a1_0, .int .i64 a1_1, .int .u8 a1_2, .slice A1_3 l1_3.length c1_3] 26 (0, 0))) ∧ (w'.heap[gb158]? = some (.cells #[.int .i64 x159000_1, .int .i64 x159001_1, .int .i64 x159002_1] 29 (0, 0))) ∧ (w'.heap[gb163]? = some (.cells #[.int .i64 ((rd_T75 y159 x20_1).f0), .int .u8 ((rd_T75 y159 x20_1).f1), .int .i64 ((rd_T75 y159 x20_1).f2)] 75 (0, 0))) ∧ (w'.heap[s_]? = some (.cells #[.int .i64 0, .int .i64 0, .int .u8 0] 33 (0, 0))) ∧ (w.heap.size ≤ s_) ∧ (w.heap.size ≤ s_) ∧ (gb156 ≠ s_) ∧ (s_ ≠ gb156) ∧ (gb157 ≠ s_) ∧ (s_ ≠ gb157) ∧ (gb158 ≠ s_) ∧ (s_ ≠ gb158) ∧ (gb163 ≠ s_) ∧ (s_ ≠ gb163) ∧ (Below w.heap.size w w')) ?_ ?_
         rotate_left
         ·intro hCont
          refine two_ (i := 6) (j := 11) (Ni := some 31) (Nj := some 8) #[true, true, true, true, true, true, true, false, false, false, false, false, false, false] #[true, true, true, true, true, true, false, false, false, false, false, true, false, false] rfl rfl rfl rfl (two_of HT_.out (by kernel_rfl)) (by decide) (by decide) (fun K hK => ?_) (fun K hK => ?_)
          ·skip
           refine gq_ Try.func51 (by kernel_rfl) rfl #[.agg #[.int .i64 a0_0, .int .i64 a0_1, .bool a0_2], .agg #[.int .i64 a1_0, .int .i64 a1_1, .int .u8 a1_2, .slice A1_3 l1_3.length c1_3]] (by rfl) rfl rfl ?_
           with_reducible refine (plan_edge.calls kj12 a0_0 a0_1 a0_2 a1_0 a1_1 a1_2 _ _ l1_3 t164 _ ?side1 ?side2 A17.out).mono ?_
           (case side1 => exact cb_ HR1_3 HB)
           (case side2 => exact HC1_3.out)
           rintro e w55 ⟨rfl, hb⟩
           refine ⟨_, rfl, ?_⟩
           have n0_ := Aside0.mk (Kd.R_below (by (with_reducible repeat (first | apply Kd.R_alloc | apply Kd.R_drewN | apply Kd.R_drew)); exact HO_18.out) hb)
           have n1_ := bb_ BK156 hb; have n2_ := bb_ BK157 hb; have n3_ := bb_ BK158 hb; have n4_ := bb_ BK163 hb; have n5_ := bs_ HB hb; clear HO_18; clear BK156; clear BK157; clear BK158; clear BK163; clear HB; have HO_18 := n0_; have BK156 := n1_; have BK157 := n2_; have BK158 := n3_; have BK163 := n4_; have HB := n5_; clear n0_ n1_ n2_ n3_ n4_ n5_
           (try clear hb)
           refine hK.out _ _ (a3_ (k3_ BK156) (a4_ (k4_ BK157) (k3_ BK163))) (fun hHeld => ?_)
           clear hK K
           refine nm_ 31 ?_
           refine two_ (i := 7) (j := 11) (Ni := some 32) (Nj := some 8) #[true, true, true, true, true, true, true, true, false, false, false, false, false, false] #[true, true, true, true, true, true, true, false, false, false, false, true, false, false] rfl rfl rfl rfl (two_of HT_.out (by kernel_rfl)) (by decide) (by decide) (fun K hK => ?_) (fun K hK => ?_)
           ·skip
            refine gq_ Try.func56 (by kernel_rfl) rfl #[.agg #[.int .i64 a0_0, .int .i64 a0_1, .bool a0_2], .agg #[.int .i64 a1_0, .int .i64 a1_1, .int .u8 a1_2, .slice A1_3 l1_3.length c1_3], .int .u8 ((rd_T75 y159 x20_1).f1), .int .i64 t164] (by rfl) rfl rfl ?_
            with_reducible refine (plan_seek.calls kj12 a0_0 a0_1 a0_2 a1_0 a1_1 a1_2 _ _ l1_3 ((rd_T75 y159 x20_1).f1) t164 t165 t166 t167 false _ ?side1 ?side2 A18.out).mono ?_
            (case side1 => exact cb_ HR1_3 HB)
            (case side2 => exact HC1_3.out)
            rintro e w56 ⟨rfl, hb⟩
            refine ⟨_, rfl, ?_⟩
            have n0_ := Aside0.mk (Kd.R_below (by (with_reducible repeat (first | apply Kd.R_alloc | apply Kd.R_drewN | apply Kd.R_drew)); exact HO_18.out) hb)
            have n1_ := bb_ BK156 hb; have n2_ := bb_ BK157 hb; have n3_ := bb_ BK158 hb; have n4_ := bb_ BK163 hb; have n5_ := bs_ HB hb; clear HO_18; clear BK156; clear BK157; clear BK158; clear BK163; clear HB; have HO_18 := n0_; have BK156 := n1_; have BK157 := n2_; have BK158 := n3_; have BK163 := n4_; have HB := n5_; clear n0_ n1_ n2_ n3_ n4_ n5_
            (try clear hb)
            refine hK.out _ _ (a3_ (k3_ BK156) (a4_ (k4_ BK157) (k3_ BK163))) (fun hHeld => ?_)
            clear hK K
            refine nm_ 32 ?_
            refine pu_ 8 24 (lb_ 14 511) rfl rfl (ao_ HT_) ?_
            refine pu_ 9 33 (lb_ 14 1023) rfl rfl (ao_ HT_) ?_
            refine pu_ 10 34 (lb_ 14 2047) rfl rfl (ao_ HT_) ?_
            refine one_ (i := 11) (N := some 8) #[true, true, true, true, true, true, true, true, true, true, true, true, false, false] rfl rfl (one_of HT_.out (by kernel_rfl)) (by decide) (fun K hK => ?_)
            refine box_step ?hg (N := 8) ?hd (cs := #[.int .i64 0, .int .i64 0, .int .u8 0]) (t := 33) ?hr ?_; (case hd => rfl); (case hg => rfl); (case hr => first | (go_simp; done) | (go_simp; rfl))
            intro gb169 hg w57 hbox hb
            have n0_ := Aside0.mk (Kd.R_below (by (with_reducible repeat (first | apply Kd.R_alloc | apply Kd.R_drewN | apply Kd.R_drew)); exact HO_18.out) hb)
            have n1_ := bb_ BK156 hb; have n2_ := bb_ BK157 hb; have n3_ := bb_ BK158 hb; have n4_ := bb_ BK163 hb; have n5_ := bs_ HB hb; have n6_ := Aside0.mk hbox; have n7_ := bg_ HB hg; have n8_ := bg_ HB hg; have n9_ := bn_ BK156 hg; have n10_ := bm_ BK156 hg; have n11_ := bn_ BK157 hg; have n12_ := bm_ BK157 hg; have n13_ := bn_ BK158 hg; have n14_ := bm_ BK158 hg; have n15_ := bn_ BK163 hg; have n16_ := bm_ BK163 hg; clear HO_18; clear BK156; clear BK157; clear BK158; clear BK163; clear HB; have HO_18 := n0_; have BK156 := n1_; have BK157 := n2_; have BK158 := n3_; have BK163 := n4_; have HB := n5_; have BK169 := n6_; have GW169 := n7_; have GE169 := n8_; have NB156_169 := n9_; have NB169_156 := n10_; have NB157_169 := n11_; have NB169_157 := n12_; have NB158_169 := n13_; have NB169_158 := n14_; have NB163_169 := n15_; have NB169_163 := n16_; clear n0_ n1_ n2_ n3_ n4_ n5_ n6_ n7_ n8_ n9_ n10_ n11_ n12_ n13_ n14_ n15_ n16_; clear hb hbox hg
            refine hK.out _ _ (a3_ (k3_ BK156) (a4_ (k4_ BK157) (k3_ BK163))) (fun hHeld => ?_)
            clear hK K
            refine nm_ 8 ?_
            exact norm_ (by simp only [putAll, Act.put, List.setIfInBounds_toArray, List.set_cons_zero, List.set_cons_succ]) (hCont (gb169) _ ⟨hHeld, (by (with_reducible repeat (first | apply Kd.R_alloc | apply Kd.R_drewN | apply Kd.R_drew)); exact HO_18.out), (bq_ BK156), (bq_ BK157), (bq_ BK158), (bq_ BK163), (bq_ BK169), GW169.out, GE169.out, NB156_169.out, NB169_156.out, NB157_169.out, NB169_157.out, NB158_169.out, NB169_158.out, NB163_169.out, NB169_163.out, (bh_ HB)⟩)
           ·skip
            refine box_step ?hg (N := 8) ?hd (cs := #[.int .i64 0, .int .i64 0, .int .u8 0]) (t := 33) ?hr ?_; (case hd => rfl); (case hg => rfl); (case hr => first | (go_simp; done) | (go_simp; rfl))
            intro gb169 hg w56 hbox hb
            have n0_ := Aside0.mk (Kd.R_below (by (with_reducible repeat (first | apply Kd.R_alloc | apply Kd.R_drewN | apply Kd.R_drew)); exact HO_18.out) hb)
            have n1_ := bb_ BK156 hb; have n2_ := bb_ BK157 hb; have n3_ := bb_ BK158 hb; have n4_ := bb_ BK163 hb; have n5_ := bs_ HB hb; have n6_ := Aside0.mk hbox; have n7_ := bg_ HB hg; have n8_ := bg_ HB hg; have n9_ := bn_ BK156 hg; have n10_ := bm_ BK156 hg; have n11_ := bn_ BK157 hg; have n12_ := bm_ BK157 hg; have n13_ := bn_ BK158 hg; have n14_ := bm_ BK158 hg; have n15_ := bn_ BK163 hg; have n16_ := bm_ BK163 hg; clear HO_18; clear BK156; clear BK157; clear BK158; clear BK163; clear HB; have HO_18 := n0_; have BK156 := n1_; have BK157 := n2_; have BK158 := n3_; have BK163 := n4_; have HB := n5_; have BK169 := n6_; have GW169 := n7_; have GE169 := n8_; have NB156_169 := n9_; have NB169_156 := n10_; have NB157_169 := n11_; have NB169_157 := n12_; have NB158_169 := n13_; have NB169_158 := n14_; have NB163_169 := n15_; have NB169_163 := n16_; clear n0_ n1_ n2_ n3_ n4_ n5_ n6_ n7_ n8_ n9_ n10_ n11_ n12_ n13_ n14_ n15_ n16_; clear hb hbox hg
            refine hK.out _ _ (a3_ (k3_ BK156) (a4_ (k4_ BK157) (k3_ BK163))) (fun hHeld => ?_)
            clear hK K
            refine nm_ 8 ?_
            refine one_ (i := 7) (N := some 32) #[true, true, true, true, true, true, true, true, false, false, false, true, false, false] rfl rfl (one_of HT_.out (by kernel_rfl)) (by decide) (fun K hK => ?_)
            refine gq_ Try.func56 (by kernel_rfl) rfl #[.agg #[.int .i64 a0_0, .int .i64 a0_1, .bool a0_2], .agg #[.int .i64 a1_0, .int .i64 a1_1, .int .u8 a1_2, .slice A1_3 l1_3.length c1_3], .int .u8 ((rd_T75 y159 x20_1).f1), .int .i64 t164] (by rfl) rfl rfl ?_
            with_reducible refine (plan_seek.calls kj12 a0_0 a0_1 a0_2 a1_0 a1_1 a1_2 _ _ l1_3 ((rd_T75 y159 x20_1).f1) t164 t165 t166 t167 false _ ?side1 ?side2 A18.out).mono ?_
            (case side1 => exact cb_ HR1_3 HB)
            (case side2 => exact HC1_3.out)
            rintro e w57 ⟨rfl, hb⟩
            refine ⟨_, rfl, ?_⟩
            have n0_ := Aside0.mk (Kd.R_below (by (with_reducible repeat (first | apply Kd.R_alloc | apply Kd.R_drewN | apply Kd.R_drew)); exact HO_18.out) hb)
            have n1_ := bb_ BK156 hb; have n2_ := bb_ BK157 hb; have n3_ := bb_ BK158 hb; have n4_ := bb_ BK163 hb; have n5_ := bb_ BK169 hb; have n6_ := bs_ HB hb; clear HO_18; clear BK156; clear BK157; clear BK158; clear BK163; clear BK169; clear HB; have HO_18 := n0_; have BK156 := n1_; have BK157 := n2_; have BK158 := n3_; have BK163 := n4_; have BK169 := n5_; have HB := n6_; clear n0_ n1_ n2_ n3_ n4_ n5_ n6_
            (try clear hb)
            refine hK.out _ _ (a3_ (k3_ BK156) (a4_ (k4_ BK157) (k3_ BK163))) (fun hHeld => ?_)
            clear hK K
            refine nm_ 32 ?_
            refine pu_ 8 24 (lb_ 14 2559) rfl rfl (ao_ HT_) ?_
            refine pu_ 9 33 (lb_ 14 3071) rfl rfl (ao_ HT_) ?_
            refine pu_ 10 34 (lb_ 14 4095) rfl rfl (ao_ HT_) ?_
            exact norm_ (by simp only [putAll, Act.put, List.setIfInBounds_toArray, List.set_cons_zero, List.set_cons_succ]) (hCont (gb169) _ ⟨hHeld, (by (with_reducible repeat (first | apply Kd.R_alloc | apply Kd.R_drewN | apply Kd.R_drew)); exact HO_18.out), (bq_ BK156), (bq_ BK157), (bq_ BK158), (bq_ BK163), (bq_ BK169), GW169.out, GE169.out, NB156_169.out, NB169_156.out, NB157_169.out, NB169_157.out, NB158_169.out, NB169_158.out, NB163_169.out, NB169_163.out, (bh_ HB)⟩)
          ·skip
           refine box_step ?hg (N := 8) ?hd (cs := #[.int .i64 0, .int .i64 0, .int .u8 0]) (t := 33) ?hr ?_; (case hd => rfl); (case hg => rfl); (case hr => first | (go_simp; done) | (go_simp; rfl))
           intro gb169 hg w55 hbox hb
           have n0_ := Aside0.mk (Kd.R_below (by (with_reducible repeat (first | apply Kd.R_alloc | apply Kd.R_drewN | apply Kd.R_drew)); exact HO_18.out) hb)
           have n1_ := bb_ BK156 hb; have n2_ := bb_ BK157 hb; have n3_ := bb_ BK158 hb; have n4_ := bb_ BK163 hb; have n5_ := bs_ HB hb; have n6_ := Aside0.mk hbox; have n7_ := bg_ HB hg; have n8_ := bg_ HB hg; have n9_ := bn_ BK156 hg; have n10_ := bm_ BK156 hg; have n11_ := bn_ BK157 hg; have n12_ := bm_ BK157 hg; have n13_ := bn_ BK158 hg; have n14_ := bm_ BK158 hg; have n15_ := bn_ BK163 hg; have n16_ := bm_ BK163 hg; clear HO_18; clear BK156; clear BK157; clear BK158; clear BK163; clear HB; have HO_18 := n0_; have BK156 := n1_; have BK157 := n2_; have BK158 := n3_; have BK163 := n4_; have HB := n5_; have BK169 := n6_; have GW169 := n7_; have GE169 := n8_; have NB156_169 := n9_; have NB169_156 := n10_; have NB157_169 := n11_; have NB169_157 := n12_; have NB158_169 := n13_; have NB169_158 := n14_; have NB163_169 := n15_; have NB169_163 := n16_; clear n0_ n1_ n2_ n3_ n4_ n5_ n6_ n7_ n8_ n9_ n10_ n11_ n12_ n13_ n14_ n15_ n16_; clear hb hbox hg
           refine hK.out _ _ (a3_ (k3_ BK156) (a4_ (k4_ BK157) (k3_ BK163))) (fun hHeld => ?_)
           clear hK K
           refine nm_ 8 ?_
           refine one_ (i := 6) (N := some 31) #[true, true, true, true, true, true, true, false, false, false, false, true, false, false] rfl rfl (one_of HT_.out (by kernel_rfl)) (by decide) (fun K hK => ?_)
           refine gq_ Try.func51 (by kernel_rfl) rfl #[.agg #[.int .i64 a0_0, .int .i64 a0_1, .bool a0_2], .agg #[.int .i64 a1_0, .int .i64 a1_1, .int .u8 a1_2, .slice A1_3 l1_3.length c1_3]] (by rfl) rfl rfl ?_
           with_reducible refine (plan_edge.calls kj12 a0_0 a0_1 a0_2 a1_0 a1_1 a1_2 _ _ l1_3 t164 _ ?side1 ?side2 A17.out).mono ?_
           (case side1 => exact cb_ HR1_3 HB)
           (case side2 => exact HC1_3.out)
           rintro e w56 ⟨rfl, hb⟩
           refine ⟨_, rfl, ?_⟩
           have n0_ := Aside0.mk (Kd.R_below (by (with_reducible repeat (first | apply Kd.R_alloc | apply Kd.R_drewN | apply Kd.R_drew)); exact HO_18.out) hb)
           have n1_ := bb_ BK156 hb; have n2_ := bb_ BK157 hb; have n3_ := bb_ BK158 hb; have n4_ := bb_ BK163 hb; have n5_ := bb_ BK169 hb; have n6_ := bs_ HB hb; clear HO_18; clear BK156; clear BK157; clear BK158; clear BK163; clear BK169; clear HB; have HO_18 := n0_; have BK156 := n1_; have BK157 := n2_; have BK158 := n3_; have BK163 := n4_; have BK169 := n5_; have HB := n6_; clear n0_ n1_ n2_ n3_ n4_ n5_ n6_
           (try clear hb)
           refine hK.out _ _ (a3_ (k3_ BK156) (a4_ (k4_ BK157) (k3_ BK163))) (fun hHeld => ?_)
           clear hK K
           refine nm_ 31 ?_
           refine one_ (i := 7) (N := some 32) #[true, true, true, true, true, true, true, true, false, false, false, true, false, false] rfl rfl (one_of HT_.out (by kernel_rfl)) (by decide) (fun K hK => ?_)
           refine gq_ Try.func56 (by kernel_rfl) rfl #[.agg #[.int .i64 a0_0, .int .i64 a0_1, .bool a0_2], .agg #[.int .i64 a1_0, .int .i64 a1_1, .int .u8 a1_2, .slice A1_3 l1_3.length c1_3], .int .u8 ((rd_T75 y159 x20_1).f1), .int .i64 t164] (by rfl) rfl rfl ?_
           with_reducible refine (plan_seek.calls kj12 a0_0 a0_1 a0_2 a1_0 a1_1 a1_2 _ _ l1_3 ((rd_T75 y159 x20_1).f1) t164 t165 t166 t167 false _ ?side1 ?side2 A18.out).mono ?_
           (case side1 => exact cb_ HR1_3 HB)
           (case side2 => exact HC1_3.out)
           rintro e w57 ⟨rfl, hb⟩
           refine ⟨_, rfl, ?_⟩
           have n0_ := Aside0.mk (Kd.R_below (by (with_reducible repeat (first | apply Kd.R_alloc | apply Kd.R_drewN | apply Kd.R_drew)); exact HO_18.out) hb)
           have n1_ := bb_ BK156 hb; have n2_ := bb_ BK157 hb; have n3_ := bb_ BK158 hb; have n4_ := bb_ BK163 hb; have n5_ := bb_ BK169 hb; have n6_ := bs_ HB hb; clear HO_18; clear BK156; clear BK157; clear BK158; clear BK163; clear BK169; clear HB; have HO_18 := n0_; have BK156 := n1_; have BK157 := n2_; have BK158 := n3_; have BK163 := n4_; have BK169 := n5_; have HB := n6_; clear n0_ n1_ n2_ n3_ n4_ n5_ n6_
           (try clear hb)
           refine hK.out _ _ (a3_ (k3_ BK156) (a4_ (k4_ BK157) (k3_ BK163))) (fun hHeld => ?_)
           clear hK K
           refine nm_ 32 ?_
           refine pu_ 8 24 (lb_ 14 2559) rfl rfl (ao_ HT_) ?_
           refine pu_ 9 33 (lb_ 14 3071) rfl rfl (ao_ HT_) ?_
           refine pu_ 10 34 (lb_ 14 4095) rfl rfl (ao_ HT_) ?_
           exact norm_ (by simp only [putAll, Act.put, List.setIfInBounds_toArray, List.set_cons_zero, List.set_cons_succ]) (hCont (gb169) _ ⟨hHeld, (by (with_reducible repeat (first | apply Kd.R_alloc | apply Kd.R_drewN | apply Kd.R_drew)); exact HO_18.out), (bq_ BK156), (bq_ BK157), (bq_ BK158), (bq_ BK163), (bq_ BK169), GW169.out, GE169.out, NB156_169.out, NB169_156.out, NB157_169.out, NB169_157.out, NB158_169.out, NB169_158.out, NB163_169.out, NB169_163.out, (bh_ HB)⟩)
         rintro gb169 w58 ⟨hS_, h0_, h1_, h2_, h3_, h4_, h5_, h6_, h7_, h8_, h9_, h10_, h11_, h12_, h13_, h14_, h15_, h16_⟩
         have n0_ : Aside0 (Kd.R k75 75 w58 w.heap.size (fun k_ => k_ ≠ gb163) (.slice (some ad162) y159.length co12) y159) := ⟨h0_⟩
         have n1_ : Aside0 (w58.heap[gb156]? = some (.cells #[.int .i64 a0_0, .int .i64 a0_1, .bool a0_2] 23 (0, 0))) := ⟨h1_⟩
         have n2_ : Aside0 (w58.heap[gb157]? = some (.cells #[.int .i64 a1_0, .int .i64 a1_1, .int .u8 a1_2, .slice A1_3 l1_3.length c1_3] 26 (0, 0))) := ⟨h2_⟩
         have n3_ : Aside0 (w58.heap[gb158]? = some (.cells #[.int .i64 x159000_1, .int .i64 x159001_1, .int .i64 x159002_1] 29 (0, 0))) := ⟨h3_⟩
         have n4_ : Aside0 (w58.heap[gb163]? = some (.cells #[.int .i64 ((rd_T75 y159 x20_1).f0), .int .u8 ((rd_T75 y159 x20_1).f1), .int .i64 ((rd_T75 y159 x20_1).f2)] 75 (0, 0))) := ⟨h4_⟩
         have n5_ : Aside0 (w58.heap[gb169]? = some (.cells #[.int .i64 0, .int .i64 0, .int .u8 0] 33 (0, 0))) := ⟨h5_⟩
         have n6_ : Aside0 (w.heap.size ≤ gb169) := ⟨h6_⟩
         have n7_ : Aside0 (w.heap.size ≤ gb169) := ⟨h7_⟩
         have n8_ : Aside0 (gb156 ≠ gb169) := ⟨h8_⟩
         have n9_ : Aside0 (gb169 ≠ gb156) := ⟨h9_⟩
         have n10_ : Aside0 (gb157 ≠ gb169) := ⟨h10_⟩
         have n11_ : Aside0 (gb169 ≠ gb157) := ⟨h11_⟩
         have n12_ : Aside0 (gb158 ≠ gb169) := ⟨h12_⟩
         have n13_ : Aside0 (gb169 ≠ gb158) := ⟨h13_⟩
         have n14_ : Aside0 (gb163 ≠ gb169) := ⟨h14_⟩
         have n15_ : Aside0 (gb169 ≠ gb163) := ⟨h15_⟩
         have n16_ : Aside0 (Below w.heap.size w w58) := ⟨h16_⟩
         clear HO_18; clear BK156; clear BK157; clear BK158; clear BK163; clear HB; clear h0_ h1_ h2_ h3_ h4_ h5_ h6_ h7_ h8_ h9_ h10_ h11_ h12_ h13_ h14_ h15_ h16_; have HO_18 := n0_; have BK156 := n1_; have BK157 := n2_; have BK158 := n3_; have BK163 := n4_; have BK169 := n5_; have GW169 := n6_; have GE169 := n7_; have NB156_169 := n8_; have NB169_156 := n9_; have NB157_169 := n10_; have NB169_157 := n11_; have NB158_169 := n12_; have NB169_158 := n13_; have NB163_169 := n14_; have NB169_163 := n15_; have HB := n16_; clear n0_ n1_ n2_ n3_ n4_ n5_ n6_ n7_ n8_ n9_ n10_ n11_ n12_ n13_ n14_ n15_ n16_
         have hHeld : w58.cell? ⟨gb156, 0, none⟩ = some (.int .i64 a0_0) ∧ w58.cell? ⟨gb156, 1, none⟩ = some (.int .i64 a0_1) ∧ w58.cell? ⟨gb156, 2, none⟩ = some (.bool a0_2) ∧ w58.cell? ⟨gb157, 0, none⟩ = some (.int .i64 a1_0) ∧ w58.cell? ⟨gb157, 1, none⟩ = some (.int .i64 a1_1) ∧ w58.cell? ⟨gb157, 2, none⟩ = some (.int .u8 a1_2) ∧ w58.cell? ⟨gb157, 3, none⟩ = some (.slice A1_3 l1_3.length c1_3) ∧ w58.cell? ⟨gb163, 0, none⟩ = some (.int .i64 ((rd_T75 y159 x20_1).f0)) ∧ w58.cell? ⟨gb163, 1, none⟩ = some (.int .u8 ((rd_T75 y159 x20_1).f1)) ∧ w58.cell? ⟨gb163, 2, none⟩ = some (.int .i64 ((rd_T75 y159 x20_1).f2)) := hS_
         refine norm_ (a' := ?_) ?_ ?_
         rotate_left
         ·simp only [putAll, Act.put, List.setIfInBounds_toArray, List.set_cons_zero, List.set_cons_succ]
          rfl
         refine one_ (i := 12) (N := none) #[true, true, true, true, true, true, true, true, true, true, true, true, true, false] rfl rfl (one_of HT_.out (by kernel_rfl)) (by decide) (fun K hK => ?_)
         have hs59 : w58.cell? ⟨gb169, 0, none⟩ = some (.int .i64 0) := (blk_cell BK169.out 0).trans rfl
         have hfs59 := blk_frozen BK169.out 0; have hns59_0 := NB156_169.out; have hns59_1 := NB157_169.out; have hns59_2 := NB158_169.out; have hns59_3 := NB163_169.out; have hms59_0 := NB169_156.out; have hms59_1 := NB169_157.out; have hms59_2 := NB169_158.out; have hms59_3 := NB169_163.out
         have hs60 : w58.cell? ⟨gb169, 1, none⟩ = some (.int .i64 0) := (blk_cell BK169.out 1).trans rfl
         have hfs60 := blk_frozen BK169.out 1; have hns60_0 := NB156_169.out; have hns60_1 := NB157_169.out; have hns60_2 := NB158_169.out; have hns60_3 := NB163_169.out; have hms60_0 := NB169_156.out; have hms60_1 := NB169_157.out; have hms60_2 := NB169_158.out; have hms60_3 := NB169_163.out
         have hs61 : w58.cell? ⟨gb169, 2, none⟩ = some (.int .u8 0) := (blk_cell BK169.out 2).trans rfl
         have hfs61 := blk_frozen BK169.out 2; have hns61_0 := NB156_169.out; have hns61_1 := NB157_169.out; have hns61_2 := NB158_169.out; have hns61_3 := NB163_169.out; have hms61_0 := NB169_156.out; have hms61_1 := NB169_157.out; have hms61_2 := NB169_158.out; have hms61_3 := NB169_163.out
         refine skip_ (w1 := ?_) (by rfl) rfl ?_ ?_
         rotate_left
         ·go_simp
          rfl
         refine hK.out _ _ ⟨(cf_ NB156_169 ((cf_ NB156_169 ((cf_ NB156_169 (hHeld.1)))))), (cf_ NB156_169 ((cf_ NB156_169 ((cf_ NB156_169 (hHeld.2.1)))))), (cf_ NB156_169 ((cf_ NB156_169 ((cf_ NB156_169 (hHeld.2.2.1)))))), (cf_ NB157_169 ((cf_ NB157_169 ((cf_ NB157_169 (hHeld.2.2.2.1)))))), (cf_ NB157_169 ((cf_ NB157_169 ((cf_ NB157_169 (hHeld.2.2.2.2.1)))))), (cf_ NB157_169 ((cf_ NB157_169 ((cf_ NB157_169 (hHeld.2.2.2.2.2.1)))))), (cf_ NB157_169 ((cf_ NB157_169 ((cf_ NB157_169 (hHeld.2.2.2.2.2.2.1)))))), (cf_ NB163_169 ((cf_ NB163_169 ((cf_ NB163_169 (hHeld.2.2.2.2.2.2.2.1)))))), (cf_ NB163_169 ((cf_ NB163_169 ((cf_ NB163_169 (hHeld.2.2.2.2.2.2.2.2.1)))))), (cf_ NB163_169 ((cf_ NB163_169 ((cf_ NB163_169 (hHeld.2.2.2.2.2.2.2.2.2))))))⟩ (fun hHeld => ?_)
         clear hK K
         refine pu_ 13 9 (lb_ 14 16383) rfl rfl (ao_ HT_) ?_
         refine done_ (done_of HT_.out (by kernel_rfl)) ?_
         try go_wp2
         go_roundg kj12
         case measure => have := HK1.out; have := HJ12.out; omega
         case rel => exact ⟨(wrap64 (x20_1 + 1)), (x159000_1), (x159001_1), (x159002_1), (by first | rfl | (simp; done) | (simp [*]; done)), H', ⟨by have := HK1.out; have := HJ12.out; omega⟩, ⟨by (with_reducible repeat (first | apply Kd.R_alloc | apply Kd.R_drewN | apply Kd.R_drew)); exact Kd.R_mono (Kd.R_far (p := ⟨gb169, 2, none⟩) (Kd.R_far (p := ⟨gb169, 1, none⟩) (Kd.R_far (p := ⟨gb169, 0, none⟩) (Kd.R_types HO_18.out BK169.out (by decide)) (fun _ hk => hk.2) (.int .i64 t165)) (fun _ hk => hk.2) (.int .i64 t166)) (fun _ hk => hk.2) (.int .u8 t167)) (fun _ hk => trivial)⟩, ⟨by (with_reducible repeat (first | refine blk_drewN ?_ _ | refine blk_drew ?_ | refine blk_alloc ?_ _)); refine blk_far ?_ NB156_169.out _; (with_reducible repeat (first | refine blk_drewN ?_ _ | refine blk_drew ?_ | refine blk_alloc ?_ _)); refine blk_far ?_ NB156_169.out _; (with_reducible repeat (first | refine blk_drewN ?_ _ | refine blk_drew ?_ | refine blk_alloc ?_ _)); refine blk_far ?_ NB156_169.out _; (with_reducible repeat (first | refine blk_drewN ?_ _ | refine blk_drew ?_ | refine blk_alloc ?_ _)); exact BK156.out⟩, ⟨by (with_reducible repeat (first | refine blk_drewN ?_ _ | refine blk_drew ?_ | refine blk_alloc ?_ _)); refine blk_far ?_ NB157_169.out _; (with_reducible repeat (first | refine blk_drewN ?_ _ | refine blk_drew ?_ | refine blk_alloc ?_ _)); refine blk_far ?_ NB157_169.out _; (with_reducible repeat (first | refine blk_drewN ?_ _ | refine blk_drew ?_ | refine blk_alloc ?_ _)); refine blk_far ?_ NB157_169.out _; (with_reducible repeat (first | refine blk_drewN ?_ _ | refine blk_drew ?_ | refine blk_alloc ?_ _)); exact BK157.out⟩, ⟨by (with_reducible repeat (first | refine blk_drewN ?_ _ | refine blk_drew ?_ | refine blk_alloc ?_ _)); refine blk_far ?_ NB158_169.out _; (with_reducible repeat (first | refine blk_drewN ?_ _ | refine blk_drew ?_ | refine blk_alloc ?_ _)); refine blk_far ?_ NB158_169.out _; (with_reducible repeat (first | refine blk_drewN ?_ _ | refine blk_drew ?_ | refine blk_alloc ?_ _)); refine blk_far ?_ NB158_169.out _; (with_reducible repeat (first | refine blk_drewN ?_ _ | refine blk_drew ?_ | refine blk_alloc ?_ _)); exact BK158.out⟩, ⟨bh_ HB⟩⟩
       ·rw [if_neg c16] at H
        exact absurd H (by simp)
      ·rw [if_neg c15] at H
       exact absurd H (by simp)
 case rest =>
  clear HC3; (try clear c1); (try clear p2); (try clear c5); (try clear p6); (try clear c15); (try clear c16); (try clear c51); (try clear c56); obtain ⟨kq, x159000_2, x159001_2, x159002_2, HA, HJ2, BK156, BK157, BK158, HB⟩ := hcut
  cases kq with
  | zero => exact absurd HA.out (by simp [plan_next.j2])
  | succ kj2 =>
   have H := HA.out; clear HA; simp only [plan_next.j2] at H; replace H := Option.bind_eq_some_iff.mp H; obtain ⟨⟨t172, t173, t174, t175⟩, A620, H⟩ := H
   replace H : (some (t172, t173, t174, t175)) = some (r1, r2, r3, r4) := H
   have A62 := Aside0.mk A620; clear A620; simp only [Option.some.injEq, Prod.mk.injEq] at H; obtain ⟨rfl, rfl, rfl, rfl⟩ := H; have hnb63 := NB156_157.out; have hnc63 := NB157_156.out; have hnb64 := NB156_158.out; have hnc64 := NB158_156.out; obtain ⟨hcz65_0, hcz65_1, hcz65_2, hfz65_0, hfz65_1, hfz65_2⟩ := c3_ BK156; have hnb66 := NB157_158.out; have hnc66 := NB158_157.out; obtain ⟨hcz67_0, hcz67_1, hcz67_2, hcz67_3, hfz67_0, hfz67_1, hfz67_2, hfz67_3⟩ := c4_ BK157
   go_wp2_with (first | ((with_reducible refine gate_callee (f := 58) rfl ?_); refine gl_ (some 52) rfl rfl Try.func58 (by kernel_rfl) rfl #[.agg #[.int .i64 a0_0, .int .i64 a0_1, .bool a0_2], .agg #[.int .i64 a1_0, .int .i64 a1_1, .int .u8 a1_2, .slice A1_3 l1_3.length c1_3]] rfl ?_; (with_reducible refine (plan_retry.calls kj2 a0_0 a0_1 a0_2 a1_0 a1_1 a1_2 _ _ l1_3 t172 t173 t174 t175 _ ?side1 ?side2 A62.out).mono ?_); (case side1 => exact cb_ HR1_3 HB); (case side2 => exact HC1_3.out); rintro e w68 ⟨rfl, hb⟩; refine ⟨_, rfl, ?_⟩; replace BK156 := bb_ BK156 hb; replace BK157 := bb_ BK157 hb; replace BK158 := bb_ BK158 hb; replace HB := bs_ HB hb; (try clear hb); obtain ⟨hcz69_0, hcz69_1, hcz69_2, hfz69_0, hfz69_1, hfz69_2⟩ := c3_ BK158))
   refine bodyPost_ret (results_ct rfl _ _ gb158 29 #[.int .i64 t172, .int .i64 t173, .int .i64 t174] (0, 0) _ rfl (bp_ BK158) Try.underlying29 rfl (by kernel_rfl)) rfl ?_
   exact ⟨by first | rfl | (simp [errW_none, errW_some] <;> rfl) | (simp [*, errW_none, errW_some] <;> rfl), bh_ HB⟩

end Go.Proofs.Ytnoilinjlelpaaa.P
