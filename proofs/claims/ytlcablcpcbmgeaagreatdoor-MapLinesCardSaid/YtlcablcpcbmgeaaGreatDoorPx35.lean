/- Laid by a program of this session's own (wip/wprint.py, over the kit's print.py): functions of the given program as plain Lean functions, and that the program's calls come to their answers. -/
import Derived.Test.YtlcablcpcbmgeaaGreatDoorPx0
import Derived.Test.YtlcablcpcbmgeaaGreatDoorPx23
import Derived.Test.YtlcablcpcbmgeaaGreatDoorPx26
import Derived.Test.YtlcablcpcbmgeaaGreatDoorPx30
import Derived.Test.YtlcablcpcbmgeaaGreatDoorPx31
import Derived.Test.YtlcablcpcbmgeaaGreatDoorPx33
import Derived.Test.YtlcablcpcbmgeaaGreatDoorPx34
namespace Go.Proofs.YtlcablcpcbmgeaaGreatDoor.P
open Go.RowKit Go.Proofs.YtlcablcpcbmgeaaGreatDoorW.PrintWords Go.Proofs.YtlcablcpcbmgeaaGreatDoorW.PrintLast Go.Proofs.YtlcablcpcbmgeaaGreatDoorW.PrintMore
attribute [local go_sem] max2_int min2_int max_two min_two max_three min_three max_four min_four   -- for this text's walks alone
set_option linter.unusedVariables false
set_option linter.unusedSimpArgs false

/-! ### salvorref16_Parse: function 17 -/
mutual
def salvorref16_Parse.l0 : Nat → List ByteArray → Bool → Int → Int → Int → Int → Int → List (S23) → Option (Int × Int × Int × (List (S23)) × Int)
 | 0, _, _, _, _, _, _, _, _ => none
 | k + 1, x5, x6, x7, x8, x262000, x262001, x262002, x262003 => if x8 < (x5.length : Int) then (if 0 ≤ x8 then ((salvorref16_words.f k (rdOf ByteArray.empty x5 x8)).bind fun t267 => (if (t267.length : Int) = 0 then (salvorref16_Parse.j1 k x5 x6 x7 x8 t267 true x262000 x262001 x262002 x262003) else (if 0 < (t267.length : Int) then (if 0 < ((rdOf ByteArray.empty t267 0).size : Int) then (salvorref16_Parse.j1 k x5 x6 x7 x8 t267 ((bt (rdOf ByteArray.empty t267 0) 0) == 35) x262000 x262001 x262002 x262003) else (none)) else (none)))) else (none)) else (if x6 = true then ((salvorref16_MayMap.f k x262000 x262001 x262002 x262003).bind fun t265 => (if t265 = true then (some (x262000, x262001, x262002, x262003, 0)) else (some (0, 0, 0, ([] : List (S23)), 6)))) else (some (0, 0, 0, ([] : List (S23)), 6)))
def salvorref16_Parse.j1 : Nat → List ByteArray → Bool → Int → Int → List ByteArray → Bool → Int → Int → Int → List (S23) → Option (Int × Int × Int × (List (S23)) × Int)
 | 0, _, _, _, _, _, _, _, _, _, _ => none
 | k + 1, x5, x6, x7, x8, x9, x42, x262000, x262001, x262002, x262003 => if x42 = true then (salvorref16_Parse.l0 k x5 x6 x7 (wrap64 (x8 + 1)) x262000 x262001 x262002 x262003) else (if (x9.length : Int) = 3 then (if 0 < (x9.length : Int) then ((salvorref16_place.f k (rdOf ByteArray.empty x9 0)).bind fun bt272 => (if x6 = true then (if 1 < (x9.length : Int) then ((salvorref16_place.f k (rdOf ByteArray.empty x9 1)).bind fun bt280 => (if bt272.2 = true then (if bt280.2 = true then (if 2 < (x9.length : Int) then (if ((rdOf ByteArray.empty x9 2).size : Int) = 1 then (if 0 < ((rdOf ByteArray.empty x9 2).size : Int) then ((salvorref16_status.f (bt (rdOf ByteArray.empty x9 2) 0)).bind fun t284 => (if t284 = true then (if bt272.1 = x7 then (if bt280.1 < 1 then (some (0, 0, 0, ([] : List (S23)), 6)) else (if bt280.1 > (wrap64 (1099511627776 - x7)) then (some (0, 0, 0, ([] : List (S23)), 6)) else ((salvorref16_put.f x262003 x7 (wrap64 (x7 + bt280.1)) (bt (rdOf ByteArray.empty x9 2) 0)).bind fun t286 => (salvorref16_Parse.l0 k x5 x6 (wrap64 (x7 + bt280.1)) (wrap64 (x8 + 1)) x262000 x262001 x262002 t286)))) else (some (0, 0, 0, ([] : List (S23)), 6))) else (some (0, 0, 0, ([] : List (S23)), 6)))) else (none)) else (some (0, 0, 0, ([] : List (S23)), 6))) else (none)) else (some (0, 0, 0, ([] : List (S23)), 6))) else (some (0, 0, 0, ([] : List (S23)), 6)))) else (none)) else (if 2 < (x9.length : Int) then ((salvorref1_GetDec.f k (rdOf ByteArray.empty x9 2)).bind fun bt275 => (if bt272.2 = true then (if bt275.2 = true then (if 1 < (x9.length : Int) then (if ((rdOf ByteArray.empty x9 1).size : Int) = 1 then (if 0 < ((rdOf ByteArray.empty x9 1).size : Int) then (salvorref16_Parse.l0 k x5 true x7 (wrap64 (x8 + 1)) bt272.1 bt275.1 (bt (rdOf ByteArray.empty x9 1) 0) x262003) else (none)) else (some (0, 0, 0, ([] : List (S23)), 6))) else (none)) else (some (0, 0, 0, ([] : List (S23)), 6))) else (some (0, 0, 0, ([] : List (S23)), 6)))) else (none)))) else (none)) else (some (0, 0, 0, ([] : List (S23)), 6)))
end
def salvorref16_Parse.f (k : Nat) (a0 : ByteArray) : Option (Int × Int × Int × (List (S23)) × Int) := if (a0.size : Int) > 40000 then (some (0, 0, 0, ([] : List (S23)), 6)) else ((salvorref6_Words.f k a0 10).bind fun t262 => (salvorref16_Parse.l0 k t262 false 0 0 0 0 0 ([] : List (S23))))
theorem salvorref16_Parse.mono_l : ∀ k, (∀ y0 y1 y2 y3 y4 y5 y6 y7, LeO (salvorref16_Parse.l0 k y0 y1 y2 y3 y4 y5 y6 y7) (salvorref16_Parse.l0 (k + 1) y0 y1 y2 y3 y4 y5 y6 y7)) ∧ (∀ y0 y1 y2 y3 y4 y5 y6 y7 y8 y9, LeO (salvorref16_Parse.j1 k y0 y1 y2 y3 y4 y5 y6 y7 y8 y9) (salvorref16_Parse.j1 (k + 1) y0 y1 y2 y3 y4 y5 y6 y7 y8 y9))
 | 0 => ⟨fun _ _ _ _ _ _ _ _ r h => by simp [salvorref16_Parse.l0] at h, fun _ _ _ _ _ _ _ _ _ _ r h => by simp [salvorref16_Parse.j1] at h⟩
 | k + 1 => by
  obtain ⟨ih0, ih1⟩ := salvorref16_Parse.mono_l k
  refine ⟨?_, ?_⟩
  ·intro y0 y1 y2 y3 y4 y5 y6 y7
   unfold salvorref16_Parse.l0
   repeat' first
   | (with_reducible exact ih0 _ _ _ _ _ _ _ _)
   | (with_reducible exact ih1 _ _ _ _ _ _ _ _ _ _)
   | (with_reducible exact salvorref16_MayMap.mono _ _ _ _ _)
   | (with_reducible exact salvorref16_place.mono _ _)
   | (with_reducible exact salvorref16_words.mono _ _)
   | (with_reducible exact salvorref1_GetDec.mono _ _)
   | (with_reducible exact salvorref6_Words.mono _ _ _)
   | (with_reducible exact LeO.refl _)
   | (with_reducible exact LeO.none _)
   | (with_reducible refine LeO.ite ?_ ?_)
   | (with_reducible refine LeO.bind ?_ (fun _ => ?_))
   | exact ih0 _ _ _ _ _ _ _ _
   | exact ih1 _ _ _ _ _ _ _ _ _ _
   | exact salvorref16_MayMap.mono _ _ _ _ _
   | exact salvorref16_place.mono _ _
   | exact salvorref16_words.mono _ _
   | exact salvorref1_GetDec.mono _ _
   | exact salvorref6_Words.mono _ _ _
   | exact LeO.none _
   | refine LeO.ite ?_ ?_
   | refine LeO.bind ?_ (fun _ => ?_)
  ·intro y0 y1 y2 y3 y4 y5 y6 y7 y8 y9
   unfold salvorref16_Parse.j1
   repeat' first
   | (with_reducible exact ih0 _ _ _ _ _ _ _ _)
   | (with_reducible exact ih1 _ _ _ _ _ _ _ _ _ _)
   | (with_reducible exact salvorref16_MayMap.mono _ _ _ _ _)
   | (with_reducible exact salvorref16_place.mono _ _)
   | (with_reducible exact salvorref16_words.mono _ _)
   | (with_reducible exact salvorref1_GetDec.mono _ _)
   | (with_reducible exact salvorref6_Words.mono _ _ _)
   | (with_reducible exact LeO.refl _)
   | (with_reducible exact LeO.none _)
   | (with_reducible refine LeO.ite ?_ ?_)
   | (with_reducible refine LeO.bind ?_ (fun _ => ?_))
   | exact ih0 _ _ _ _ _ _ _ _
   | exact ih1 _ _ _ _ _ _ _ _ _ _
   | exact salvorref16_MayMap.mono _ _ _ _ _
   | exact salvorref16_place.mono _ _
   | exact salvorref16_words.mono _ _
   | exact salvorref1_GetDec.mono _ _
   | exact salvorref6_Words.mono _ _ _
   | exact LeO.none _
   | refine LeO.ite ?_ ?_
   | refine LeO.bind ?_ (fun _ => ?_)
theorem salvorref16_Parse.mono : ∀ a0 k, LeO (salvorref16_Parse.f k a0) (salvorref16_Parse.f (k + 1) a0) := by
 intro a0 k
 obtain ⟨ih0, ih1⟩ := salvorref16_Parse.mono_l k
 unfold salvorref16_Parse.f
 repeat' first
   | (with_reducible exact ih0 _ _ _ _ _ _ _ _)
   | (with_reducible exact ih1 _ _ _ _ _ _ _ _ _ _)
   | (with_reducible exact salvorref16_MayMap.mono _ _ _ _ _)
   | (with_reducible exact salvorref16_place.mono _ _)
   | (with_reducible exact salvorref16_words.mono _ _)
   | (with_reducible exact salvorref1_GetDec.mono _ _)
   | (with_reducible exact salvorref6_Words.mono _ _ _)
   | (with_reducible exact LeO.refl _)
   | (with_reducible exact LeO.none _)
   | (with_reducible refine LeO.ite ?_ ?_)
   | (with_reducible refine LeO.bind ?_ (fun _ => ?_))
   | exact ih0 _ _ _ _ _ _ _ _
   | exact ih1 _ _ _ _ _ _ _ _ _ _
   | exact salvorref16_MayMap.mono _ _ _ _ _
   | exact salvorref16_place.mono _ _
   | exact salvorref16_words.mono _ _
   | exact salvorref1_GetDec.mono _ _
   | exact salvorref6_Words.mono _ _ _
   | exact LeO.none _
   | refine LeO.ite ?_ ?_
   | refine LeO.bind ?_ (fun _ => ?_)
def salvorref16_Parse.T18 : Bool × List (List Nat × List Nat) := (true, [([], []), ([], []), ([1], [1]), ([2], [2]), ([3], [3]), ([], []), ([0], []), ([6, 0, 0], [0, 6]), ([0, 1, 2, 3, 4, 6, 7], []), ([8, 4, 7, 0, 1, 2, 3, 4, 6, 7], [4, 8]), ([0, 1, 2, 3, 4, 5, 6, 7, 8, 9], []), ([10, 5, 9, 0, 1, 2, 3, 4, 5, 6, 7, 8, 9], [5, 10]), ([11, 0, 1, 2, 3, 4, 5, 6, 7, 8, 9, 10, 11], [])])
def salvorref16_Parse.B18 : List Nat := [0, 0, 2, 6, 14, 0, 1, 65, 223, 479, 1023, 2047, 4095]
theorem salvorref16_Parse.tab18 : rtab .any (opsOf Tryz.f17 18) = salvorref16_Parse.T18 := by kernel_rfl
theorem salvorref16_Parse.bits18 : waitsOk salvorref16_Parse.T18.2 salvorref16_Parse.B18 = true := by kernel_rfl
def salvorref16_Parse.T22 : Bool × List (List Nat × List Nat) := (true, [([], []), ([0], [0]), ([], []), ([], []), ([], []), ([3, 4], [3, 4]), ([], []), ([6], [6]), ([7], [7]), ([8], [8]), ([1, 2, 5, 9], [1, 2, 5, 9]), ([0, 1, 2, 3, 4, 5, 6, 7, 8, 9, 10], []), ([11, 10, 10, 0, 1, 2, 3, 4, 5, 6, 7, 8, 9, 10], [10, 11])])
def salvorref16_Parse.B22 : List Nat := [0, 1, 0, 0, 0, 24, 0, 64, 192, 448, 1023, 2047, 4095]
theorem salvorref16_Parse.tab22 : rtab .any (opsOf Tryz.f17 22) = salvorref16_Parse.T22 := by kernel_rfl
theorem salvorref16_Parse.bits22 : waitsOk salvorref16_Parse.T22.2 salvorref16_Parse.B22 = true := by kernel_rfl
set_option maxHeartbeats 8000000 in
set_option maxRecDepth 100000 in
theorem salvorref16_Parse.calls (k : Nat) (a0 : ByteArray) (r1 : Int) (r2 : Int) (r3 : Int) (r4 : List (S23)) (r5 : Int) (w : World) (h : salvorref16_Parse.f k a0 = some (r1, r2, r3, r4, r5)) :
  Calls Tryz.prog 17 #[.string a0] w fun e w' => ∃ v3_ : Value, e = .returned (.tuple #[.agg #[.int .i64 r1, .int .i64 r2, .int .u8 r3, v3_], .int .i64 r5]) ∧ Kd.R k23 23 w' w.heap.size (fun _ => True) v3_ r4 ∧ Below w.heap.size w w' := by
 have hu26 := Tryz.underlying26
 have HB := Aside0.mk (Below.refl w.heap.size w)
 have H : (if (a0.size : Int) > 40000 then (some (0, 0, 0, ([] : List (S23)), 6)) else ((salvorref6_Words.f k a0 10).bind fun t262 => (salvorref16_Parse.l0 k t262 false 0 0 0 0 0 ([] : List (S23))))) = some (r1, r2, r3, r4, r5) := h
 clear h
 by_cases c2 : (a0.size : Int) > 40000
 ·rw [if_pos c2] at H
  have c2b0 : decide (40000 < (a0.size : Int)) = true := decide_eq_true c2
  have c2b1 : decide (40000 < a0.size) = true := decide_eq_true (by omega)
  clear c2
  simp only [Option.some.injEq, Prod.mk.injEq] at H
  obtain ⟨rfl, rfl, rfl, rfl, rfl⟩ := H
  go_enter Tryz.func17, Tryz.ntmps17
  go_wp2_with (first | ((with_reducible refine gate_dst (N := 2) rfl ?_); (try (refine gate_guard (by rfl) ?_; dsimp only)); refine box_e 2 #[.int .i64 0, .int .i64 0, .int .u8 0, .slice none 0 0] 26 ?_; intro gb260 hg w3 hbox hb; have BK260 := Aside0.mk hbox; have GW260 := bg_ HB hg; have GE260 := bg_ HB hg; replace HB := bs_ HB hb; clear hb hbox hg) | ((with_reducible refine gate_dst (N := 4) rfl ?_); (try (refine gate_guard (by rfl) ?_; dsimp only)); refine box_e 4 #[.int .i64 0, .int .i64 0, .int .u8 0, .slice none 0 0] 26 ?_; intro gb261 hg w4 hbox hb; have BK261 := Aside0.mk hbox; have GW261 := bg_ HB hg; have GE261 := bg_ HB hg; have NB260_261 := bn_ BK260 hg; have NB261_260 := bm_ BK260 hg; replace BK260 := bb_ BK260 hb; replace HB := bs_ HB hb; clear hb hbox hg; have hnb5 := NB260_261.out; have hnc5 := NB261_260.out; obtain ⟨hcz6_0, hcz6_1, hcz6_2, hcz6_3, hfz6_0, hfz6_1, hfz6_2, hfz6_3⟩ := c4_ BK260))
  refine bodyPost_ret (results_ct rfl _ _ gb260 26 #[.int .i64 0, .int .i64 0, .int .u8 0, .slice none 0 0] (0, 0) _ rfl (bp_ BK260) Tryz.underlying26 rfl (by kernel_rfl)) rfl ?_
  exact ⟨_, by first | rfl | (simp [errW_none, errW_some] <;> rfl) | (simp [*, errW_none, errW_some] <;> rfl), by first | exact Kd.R_nil _ _ _ _ _ | exact Kd.N_nil _ _ _ _ _ | exact Kd.V_nil _ _ _ _ _ | exact Kd.Q_nil _ _ _ _ _ | exact Kd.S_nil _ _ _ _ _, bh_ HB⟩
 ·rw [if_neg c2] at H
  have c2b0 : decide (40000 < (a0.size : Int)) = false := decide_eq_false c2
  have c2b1 : decide (40000 < a0.size) = false := decide_eq_false (by omega)
  clear c2
  replace H := Option.bind_eq_some_iff.mp H
  obtain ⟨t262, A70, H⟩ := H
  replace H : (salvorref16_Parse.l0 k t262 false 0 0 0 0 0 ([] : List (S23))) = some (r1, r2, r3, r4, r5) := H
  have A7 := Aside0.mk A70
  clear A70
  have H' := Aside0.mk H
  clear H
  go_enter Tryz.func17, Tryz.ntmps17
  go_wp2_with (first | ((with_reducible refine gate_dst (N := 2) rfl ?_); (try (refine gate_guard (by rfl) ?_; dsimp only)); refine box_e 2 #[.int .i64 0, .int .i64 0, .int .u8 0, .slice none 0 0] 26 ?_; intro gb260 hg w8 hbox hb; have BK260 := Aside0.mk hbox; have GW260 := bg_ HB hg; have GE260 := bg_ HB hg; replace HB := bs_ HB hb; clear hb hbox hg) | ((with_reducible refine gate_dst (N := 4) rfl ?_); (try (refine gate_guard (by rfl) ?_; dsimp only)); refine box_e 4 #[.int .i64 0, .int .i64 0, .int .u8 0, .slice none 0 0] 26 ?_; intro gb261 hg w9 hbox hb; have BK261 := Aside0.mk hbox; have GW261 := bg_ HB hg; have GE261 := bg_ HB hg; have NB260_261 := bn_ BK260 hg; have NB261_260 := bm_ BK260 hg; replace BK260 := bb_ BK260 hb; replace HB := bs_ HB hb; clear hb hbox hg) | ((with_reducible refine gate_callee (f := 43) rfl ?_); refine gl_ (some 21) rfl rfl Tryz.func43 (by kernel_rfl) rfl #[.string a0, .int .u8 10] rfl ?_; (with_reducible refine (salvorref6_Words.calls k a0 10 t262 _ A7.out).mono ?_); rintro e w10 ⟨v263, rfl, ho0, hb⟩; refine ⟨_, rfl, ?_⟩; have HO264 := Aside0.mk (Kd.R_lower ho0 (below_size (bh_ HB))); replace BK260 := bb_ BK260 hb; replace BK261 := bb_ BK261 hb; replace HB := bs_ HB hb; (try clear hb); (try clear hb2); (try clear hk); (try clear hi); (try clear ho0)))
  go_loopg [6, 7, 8] k (fun kq v6 v7 v8 w' => ∃ (x6_1 : Bool) (x7_1 : Int) (x8_1 : Int) (x261000_1 : Int) (x261001_1 : Int) (x261002_1 : Int) (x262000_1 : Int) (x262001_1 : Int) (x262002_1 : Int) (x262003_1 : List (S23)) (u262003 : Value), v6 = .bool x6_1 ∧ v7 = .int .i64 x7_1 ∧ v8 = .int .i64 x8_1 ∧ Aside0 (salvorref16_Parse.l0 kq t262 x6_1 x7_1 x8_1 x262000_1 x262001_1 x262002_1 x262003_1 = some (r1, r2, r3, r4, r5)) ∧ Aside0 (kq ≤ k) ∧ Aside0 (Kd.R Kd.string 9 w' w.heap.size (fun _ => True) v263 t262) ∧ Aside0 (Kd.R k23 23 w' w.heap.size (fun _ => True) u262003 x262003_1) ∧ Aside0 (w'.heap[gb260]? = some (.cells #[.int .i64 x261000_1, .int .i64 x261001_1, .int .u8 x261002_1, (.slice none 0 0)] 26 (0, 0))) ∧ Aside0 (w'.heap[gb261]? = some (.cells #[.int .i64 x262000_1, .int .i64 x262001_1, .int .u8 x262002_1, u262003] 26 (0, 0))) ∧ Aside0 (Below w.heap.size w w'))
  case atStart => exact ⟨(false), (0), (0), (0), (0), (0), (0), (0), (0), (([] : List (S23))), (.slice none 0 0), (by first | rfl | (simp; done) | (simp [*]; done)), (by first | rfl | (simp; done) | (simp [*]; done)), (by first | rfl | (simp; done) | (simp [*]; done)), H', ⟨Nat.le_refl _⟩, ⟨by (with_reducible repeat (first | apply Kd.R_alloc | apply Kd.R_drewN | apply Kd.R_drew)); exact HO264.out⟩, ⟨by first | exact Kd.R_nil _ _ _ _ _ | exact Kd.N_nil _ _ _ _ _ | exact Kd.V_nil _ _ _ _ _ | exact Kd.Q_nil _ _ _ _ _ | exact Kd.S_nil _ _ _ _ _⟩, ⟨bq_ BK260⟩, ⟨bq_ BK261⟩, ⟨bh_ HB⟩⟩
  case round =>
   clear H'
   try clear c1
   try clear c2
   try clear c2b0
   try clear c2b1
   try clear p2
   try clear c4
   try clear c5
   try clear hcz6_0 hcz6_1 hcz6_2 hcz6_3 hfz6_0 hfz6_1 hfz6_2 hfz6_3
   obtain ⟨x6_1, x7_1, x8_1, x261000_1, x261001_1, x261002_1, x262000_1, x262001_1, x262002_1, x262003_1, u262003, rfl, rfl, rfl, HA, HK1, HO_5, HO_262003, BK260, BK261, HB⟩ := hrel
   cases gk with
   | zero => exact absurd HA.out (by simp [salvorref16_Parse.l0])
   | succ k1 =>
    have H := HA.out
    clear HA
    simp only [salvorref16_Parse.l0] at H
    by_cases c11 : x8_1 < (t262.length : Int)
    ·rw [if_pos c11] at H
     have c11b0 : decide (x8_1 < (t262.length : Int)) = true := decide_eq_true c11
     clear c11
     by_cases c12 : 0 ≤ x8_1
     ·rw [if_pos c12] at H
      have c12b0 : decide (0 ≤ x8_1) = true := decide_eq_true c12
      clear c12
      replace H := Option.bind_eq_some_iff.mp H
      obtain ⟨t267, A130, H⟩ := H
      replace H : (if (t267.length : Int) = 0 then (salvorref16_Parse.j1 k1 t262 x6_1 x7_1 x8_1 t267 true x262000_1 x262001_1 x262002_1 x262003_1) else (if 0 < (t267.length : Int) then (if 0 < ((rdOf ByteArray.empty t267 0).size : Int) then (salvorref16_Parse.j1 k1 t262 x6_1 x7_1 x8_1 t267 ((bt (rdOf ByteArray.empty t267 0) 0) == 35) x262000_1 x262001_1 x262002_1 x262003_1) else (none)) else (none))) = some (r1, r2, r3, r4, r5) := H
      have A13 := Aside0.mk A130
      clear A130
      have HC14 := Aside0.mk H
      clear H
      obtain ⟨Ao15, co15, eo15⟩ := Kd.R_slice HO_5.out
      subst eo15
      have p266 : 0 ≤ (x8_1 : Int) := of_decide_eq_true (by first | (with_reducible assumption) | assumption)
      have q266 : x8_1 < (t262.length : Int) := of_decide_eq_true (by first | (with_reducible assumption) | assumption)
      obtain ⟨ad266, e266, hx266_0⟩ := Kd.at_string (Kd.R_reads' HO_5.out).2.2 x8_1 p266 q266
      cases e266
      replace p266 := eq_true p266
      replace q266 := eq_true q266
      go_upto_region 10 with (first | ((with_reducible refine gate_callee (f := 44) rfl ?_); refine gl_ (some 32) rfl rfl Tryz.func44 (by kernel_rfl) rfl #[.string (rdOf ByteArray.empty t262 x8_1)] rfl ?_; (with_reducible refine (salvorref16_words.calls k1 (rdOf ByteArray.empty t262 x8_1) t267 _ A13.out).mono ?_); rintro e w16 ⟨v268, rfl, ho0, hb⟩; refine ⟨_, rfl, ?_⟩; have n0_ := Aside0.mk (Kd.R_elder' (by (with_reducible repeat (first | apply Kd.R_alloc | apply Kd.R_drewN | apply Kd.R_drew)); exact HO_5.out) (Kd.R_base ho0) hb); have n1_ := Aside0.mk (Kd.R_below (by (with_reducible repeat (first | apply Kd.R_alloc | apply Kd.R_drewN | apply Kd.R_drew)); exact HO_262003.out) hb); have n2_ := Aside0.mk (Kd.R_lower (Kd.R_new' ho0 (Kd.R_lt (by (with_reducible repeat (first | apply Kd.R_alloc | apply Kd.R_drewN | apply Kd.R_drew)); exact HO_5.out))) (below_size (bh_ HB))); have n3_ := bb_ BK260 hb; have n4_ := bb_ BK261 hb; have n5_ := bs_ HB hb; clear HO_5; clear HO_262003; clear BK260; clear BK261; clear HB; have HO_5 := n0_; have HO_262003 := n1_; have HO269 := n2_; have BK260 := n3_; have BK261 := n4_; have HB := n5_; clear n0_ n1_ n2_ n3_ n4_ n5_; (try clear hb); (try clear hb2); (try clear hk); (try clear hi); (try clear ho0)))
      (try simp only [Act.put, List.setIfInBounds_toArray, List.set_cons_zero, List.set_cons_succ])
      go_cut [42] (fun v42 wc => ∃ (kq : Nat) (x42_13 : Bool), v42 = .bool x42_13 ∧ Aside0 (salvorref16_Parse.j1 kq t262 x6_1 x7_1 x8_1 t267 x42_13 x262000_1 x262001_1 x262002_1 x262003_1 = some (r1, r2, r3, r4, r5)) ∧ Aside0 (kq ≤ k1) ∧ Aside0 (Kd.R Kd.string 9 wc w.heap.size (fun k_ => some k_ ≠ (v268 : Value).ownBlock) (.slice (some ad266) t262.length co15) t262) ∧ Aside0 (Kd.R Kd.string 9 wc w.heap.size (fun k_ => some k_ ≠ ((.slice (some ad266) t262.length co15) : Value).ownBlock) v268 t267) ∧ Aside0 (Kd.R k23 23 wc w.heap.size (fun _ => True) u262003 x262003_1) ∧ Aside0 (wc.heap[gb260]? = some (.cells #[.int .i64 x261000_1, .int .i64 x261001_1, .int .u8 x261002_1, (.slice none 0 0)] 26 (0, 0))) ∧ Aside0 (wc.heap[gb261]? = some (.cells #[.int .i64 x262000_1, .int .i64 x262001_1, .int .u8 x262002_1, u262003] 26 (0, 0))) ∧ Aside0 (Below w.heap.size w wc))
      case first =>
       have H := HC14.out
       clear HC14
       by_cases c17 : (t267.length : Int) = 0
       ·rw [if_pos c17] at H
        have c17b0 : ((t267.length : Int) == 0) = true := beq_iff_eq.mpr c17
        have c17b1 : ((t267.length : Int) != 0) = false := bne_eq_false_iff_eq.mpr c17
        clear c17
        (first | rw [c17b0] | (simp only [i64_w, i32_w]; rw [c17b0]) | skip)
        have H' := Aside0.mk H
        clear H
        obtain ⟨Ao18, co18, eo18⟩ := Kd.R_slice HO269.out
        subst eo18
        go_wp2
        go_meet
        case rel => exact ⟨_, (true), (by first | rfl | (simp; done) | (simp [*]; done)), H', ⟨by have := HK1.out; first | omega | exact Nat.le_refl _⟩, ⟨by (with_reducible repeat (first | apply Kd.R_alloc | apply Kd.R_drewN | apply Kd.R_drew)); exact Kd.R_mono HO_5.out (fun _ hk => hk.2)⟩, ⟨by (with_reducible repeat (first | apply Kd.R_alloc | apply Kd.R_drewN | apply Kd.R_drew)); exact Kd.R_mono HO269.out (fun _ hk => hk.2)⟩, ⟨by (with_reducible repeat (first | apply Kd.R_alloc | apply Kd.R_drewN | apply Kd.R_drew)); exact HO_262003.out⟩, ⟨bq_ BK260⟩, ⟨bq_ BK261⟩, ⟨bh_ HB⟩⟩
       ·rw [if_neg c17] at H
        have c17b0 : ((t267.length : Int) == 0) = false := beq_eq_false_iff_ne.mpr c17
        have c17b1 : ((t267.length : Int) != 0) = true := bne_iff_ne.mpr c17
        have c17b2 : ¬ (t267 = []) := fun h_ => c17 (by rw [h_]; rfl)
        (first | rw [c17b0] | (simp only [i64_w, i32_w]; rw [c17b0]) | skip)
        by_cases c19 : 0 < (t267.length : Int)
        ·rw [if_pos c19] at H
         have c19b0 : decide (0 < (t267.length : Int)) = true := decide_eq_true c19
         have c19b1 : decide (0 < t267.length) = true := decide_eq_true (by omega)
         clear c19
         by_cases c20 : 0 < ((rdOf ByteArray.empty t267 0).size : Int)
         ·rw [if_pos c20] at H
          have c20b0 : decide (0 < ((rdOf ByteArray.empty t267 0).size : Int)) = true := decide_eq_true c20
          have c20b1 : decide (0 < (rdOf ByteArray.empty t267 0).size) = true := decide_eq_true (by omega)
          clear c20
          have H' := Aside0.mk H
          clear H
          obtain ⟨Ao22, co22, eo22⟩ := Kd.R_slice HO269.out
          subst eo22
          have p270 : 0 ≤ (0 : Int) := (by omega)
          have q270 : 0 < (t267.length : Int) := of_decide_eq_true (by first | (with_reducible assumption) | assumption)
          obtain ⟨ad270, e270, hx270_0⟩ := Kd.at_string (Kd.R_reads' HO269.out).2.2 0 p270 q270
          cases e270
          have qi270 : (0 < t267.length) = True := eq_true (by omega)
          (try rw [show ((0 : Int)).toNat = 0 from rfl] at hx270_0)
          (try rw [Addr.add_zero'] at hx270_0)
          replace p270 := eq_true p270
          replace q270 := eq_true q270
          have p21 : 0 ≤ (0 : Int) := (by omega)
          have q21 : 0 < (rdOf ByteArray.empty t267 0).size := (by have : (0 : Int) < ((rdOf ByteArray.empty t267 0).size : Int) := of_decide_eq_true (by first | (with_reducible assumption) | assumption); omega)
          have hx21 : ∀ h : 0 < (rdOf ByteArray.empty t267 0).size, (((rdOf ByteArray.empty t267 0)[0]'h).toNat : Int) = bt (rdOf ByteArray.empty t267 0) 0 := bt_at (rdOf ByteArray.empty t267 0) 0
          clear p21
          have qi21 : (0 < ((rdOf ByteArray.empty t267 0).size : Int)) = True := eq_true (of_decide_eq_true (by first | (with_reducible assumption) | assumption))
          replace q21 := eq_true q21
          go_wp2
          go_meet
          case rel => exact ⟨_, (((bt (rdOf ByteArray.empty t267 0) 0) == 35)), (by first | rfl | (simp; done) | (simp [*]; done)), H', ⟨by have := HK1.out; first | omega | exact Nat.le_refl _⟩, ⟨by (with_reducible repeat (first | apply Kd.R_alloc | apply Kd.R_drewN | apply Kd.R_drew)); exact Kd.R_mono HO_5.out (fun _ hk => hk.2)⟩, ⟨by (with_reducible repeat (first | apply Kd.R_alloc | apply Kd.R_drewN | apply Kd.R_drew)); exact Kd.R_mono HO269.out (fun _ hk => hk.2)⟩, ⟨by (with_reducible repeat (first | apply Kd.R_alloc | apply Kd.R_drewN | apply Kd.R_drew)); exact HO_262003.out⟩, ⟨bq_ BK260⟩, ⟨bq_ BK261⟩, ⟨bh_ HB⟩⟩
         ·rw [if_neg c20] at H
          exact absurd H (by simp)
        ·rw [if_neg c19] at H
         exact absurd H (by simp)
      case rest =>
       clear HC14
       try clear c1
       try clear c2
       try clear c2b0
       try clear c2b1
       try clear p2
       try clear q2
       try clear hx2
       try clear qi2
       try clear c4
       try clear c5
       try clear c11
       try clear c11b0
       try clear c12
       try clear c12b0
       try clear c17
       try clear c17b0
       try clear c17b1
       try clear c17b2
       try clear c19
       try clear c19b0
       try clear c19b1
       try clear c20
       try clear c20b0
       try clear c20b1
       try clear p21
       try clear q21
       try clear hx21
       try clear qi21
       try clear hcz6_0 hcz6_1 hcz6_2 hcz6_3 hfz6_0 hfz6_1 hfz6_2 hfz6_3
       try clear hx266_0
       try clear hx270_0
       try clear p2
       try clear p21
       try clear p266
       try clear p270
       try clear q21
       try clear q266
       try clear q270
       obtain ⟨kq, x42_13, rfl, HA, HJ13, HO_5, HO_9, HO_262003, BK260, BK261, HB⟩ := hcut
       cases kq with
       | zero => exact absurd HA.out (by simp [salvorref16_Parse.j1])
       | succ kj13 =>
        have H := HA.out
        clear HA
        simp only [salvorref16_Parse.j1] at H
        by_cases c23 : x42_13 = true
        ·subst c23
         have H1 : (salvorref16_Parse.l0 kj13 t262 x6_1 x7_1 (wrap64 (x8_1 + 1)) x262000_1 x262001_1 x262002_1 x262003_1) = some (r1, r2, r3, r4, r5) := by rw [if_pos rfl] at H; exact H
         clear H
         have H := H1
         clear H1
         have H' := Aside0.mk H
         clear H
         go_wp2
         go_roundg kj13
         case measure => have := HK1.out; have := HJ13.out; omega
         case rel => exact ⟨(x6_1), (x7_1), (wrap64 (x8_1 + 1)), (x261000_1), (x261001_1), (x261002_1), (x262000_1), (x262001_1), (x262002_1), (x262003_1), (u262003), (by first | rfl | (simp; done) | (simp [*]; done)), (by first | rfl | (simp; done) | (simp [*]; done)), (by first | rfl | (simp; done) | (simp [*]; done)), H', ⟨by have := HK1.out; have := HJ13.out; omega⟩, ⟨by (with_reducible repeat (first | apply Kd.R_alloc | apply Kd.R_drewN | apply Kd.R_drew)); exact Kd.R_mono HO_5.out (fun _ hk => trivial)⟩, ⟨by (with_reducible repeat (first | apply Kd.R_alloc | apply Kd.R_drewN | apply Kd.R_drew)); exact HO_262003.out⟩, ⟨bq_ BK260⟩, ⟨bq_ BK261⟩, ⟨bh_ HB⟩⟩
        ·replace c23 := Bool.eq_false_iff.mpr c23
         subst c23
         have H1 : (if (t267.length : Int) = 3 then (if 0 < (t267.length : Int) then ((salvorref16_place.f kj13 (rdOf ByteArray.empty t267 0)).bind fun bt272 => (if x6_1 = true then (if 1 < (t267.length : Int) then ((salvorref16_place.f kj13 (rdOf ByteArray.empty t267 1)).bind fun bt280 => (if bt272.2 = true then (if bt280.2 = true then (if 2 < (t267.length : Int) then (if ((rdOf ByteArray.empty t267 2).size : Int) = 1 then (if 0 < ((rdOf ByteArray.empty t267 2).size : Int) then ((salvorref16_status.f (bt (rdOf ByteArray.empty t267 2) 0)).bind fun t284 => (if t284 = true then (if bt272.1 = x7_1 then (if bt280.1 < 1 then (some (0, 0, 0, ([] : List (S23)), 6)) else (if bt280.1 > (wrap64 (1099511627776 - x7_1)) then (some (0, 0, 0, ([] : List (S23)), 6)) else ((salvorref16_put.f x262003_1 x7_1 (wrap64 (x7_1 + bt280.1)) (bt (rdOf ByteArray.empty t267 2) 0)).bind fun t286 => (salvorref16_Parse.l0 kj13 t262 x6_1 (wrap64 (x7_1 + bt280.1)) (wrap64 (x8_1 + 1)) x262000_1 x262001_1 x262002_1 t286)))) else (some (0, 0, 0, ([] : List (S23)), 6))) else (some (0, 0, 0, ([] : List (S23)), 6)))) else (none)) else (some (0, 0, 0, ([] : List (S23)), 6))) else (none)) else (some (0, 0, 0, ([] : List (S23)), 6))) else (some (0, 0, 0, ([] : List (S23)), 6)))) else (none)) else (if 2 < (t267.length : Int) then ((salvorref1_GetDec.f kj13 (rdOf ByteArray.empty t267 2)).bind fun bt275 => (if bt272.2 = true then (if bt275.2 = true then (if 1 < (t267.length : Int) then (if ((rdOf ByteArray.empty t267 1).size : Int) = 1 then (if 0 < ((rdOf ByteArray.empty t267 1).size : Int) then (salvorref16_Parse.l0 kj13 t262 true x7_1 (wrap64 (x8_1 + 1)) bt272.1 bt275.1 (bt (rdOf ByteArray.empty t267 1) 0) x262003_1) else (none)) else (some (0, 0, 0, ([] : List (S23)), 6))) else (none)) else (some (0, 0, 0, ([] : List (S23)), 6))) else (some (0, 0, 0, ([] : List (S23)), 6)))) else (none)))) else (none)) else (some (0, 0, 0, ([] : List (S23)), 6))) = some (r1, r2, r3, r4, r5) := by rw [if_neg (show ¬ (false = true) by decide)] at H; exact H
         clear H
         have H := H1
         clear H1
         by_cases c24 : (t267.length : Int) = 3
         ·rw [if_pos c24] at H
          have c24b0 : ((t267.length : Int) == 3) = true := beq_iff_eq.mpr c24
          have c24b1 : ((t267.length : Int) != 3) = false := bne_eq_false_iff_eq.mpr c24
          clear c24
          by_cases c25 : 0 < (t267.length : Int)
          ·rw [if_pos c25] at H
           have c25b0 : decide (0 < (t267.length : Int)) = true := decide_eq_true c25
           have c25b1 : decide (0 < t267.length) = true := decide_eq_true (by omega)
           clear c25
           replace H := Option.bind_eq_some_iff.mp H
           obtain ⟨⟨t272, t273⟩, A260, H⟩ := H
           replace H : (if x6_1 = true then (if 1 < (t267.length : Int) then ((salvorref16_place.f kj13 (rdOf ByteArray.empty t267 1)).bind fun bt280 => (if t273 = true then (if bt280.2 = true then (if 2 < (t267.length : Int) then (if ((rdOf ByteArray.empty t267 2).size : Int) = 1 then (if 0 < ((rdOf ByteArray.empty t267 2).size : Int) then ((salvorref16_status.f (bt (rdOf ByteArray.empty t267 2) 0)).bind fun t284 => (if t284 = true then (if t272 = x7_1 then (if bt280.1 < 1 then (some (0, 0, 0, ([] : List (S23)), 6)) else (if bt280.1 > (wrap64 (1099511627776 - x7_1)) then (some (0, 0, 0, ([] : List (S23)), 6)) else ((salvorref16_put.f x262003_1 x7_1 (wrap64 (x7_1 + bt280.1)) (bt (rdOf ByteArray.empty t267 2) 0)).bind fun t286 => (salvorref16_Parse.l0 kj13 t262 x6_1 (wrap64 (x7_1 + bt280.1)) (wrap64 (x8_1 + 1)) x262000_1 x262001_1 x262002_1 t286)))) else (some (0, 0, 0, ([] : List (S23)), 6))) else (some (0, 0, 0, ([] : List (S23)), 6)))) else (none)) else (some (0, 0, 0, ([] : List (S23)), 6))) else (none)) else (some (0, 0, 0, ([] : List (S23)), 6))) else (some (0, 0, 0, ([] : List (S23)), 6)))) else (none)) else (if 2 < (t267.length : Int) then ((salvorref1_GetDec.f kj13 (rdOf ByteArray.empty t267 2)).bind fun bt275 => (if t273 = true then (if bt275.2 = true then (if 1 < (t267.length : Int) then (if ((rdOf ByteArray.empty t267 1).size : Int) = 1 then (if 0 < ((rdOf ByteArray.empty t267 1).size : Int) then (salvorref16_Parse.l0 kj13 t262 true x7_1 (wrap64 (x8_1 + 1)) t272 bt275.1 (bt (rdOf ByteArray.empty t267 1) 0) x262003_1) else (none)) else (some (0, 0, 0, ([] : List (S23)), 6))) else (none)) else (some (0, 0, 0, ([] : List (S23)), 6))) else (some (0, 0, 0, ([] : List (S23)), 6)))) else (none))) = some (r1, r2, r3, r4, r5) := H
           have A26 := Aside0.mk A260
           clear A260
           by_cases c27 : x6_1 = true
           ·subst c27
            have H1 : (if 1 < (t267.length : Int) then ((salvorref16_place.f kj13 (rdOf ByteArray.empty t267 1)).bind fun bt280 => (if t273 = true then (if bt280.2 = true then (if 2 < (t267.length : Int) then (if ((rdOf ByteArray.empty t267 2).size : Int) = 1 then (if 0 < ((rdOf ByteArray.empty t267 2).size : Int) then ((salvorref16_status.f (bt (rdOf ByteArray.empty t267 2) 0)).bind fun t284 => (if t284 = true then (if t272 = x7_1 then (if bt280.1 < 1 then (some (0, 0, 0, ([] : List (S23)), 6)) else (if bt280.1 > (wrap64 (1099511627776 - x7_1)) then (some (0, 0, 0, ([] : List (S23)), 6)) else ((salvorref16_put.f x262003_1 x7_1 (wrap64 (x7_1 + bt280.1)) (bt (rdOf ByteArray.empty t267 2) 0)).bind fun t286 => (salvorref16_Parse.l0 kj13 t262 true (wrap64 (x7_1 + bt280.1)) (wrap64 (x8_1 + 1)) x262000_1 x262001_1 x262002_1 t286)))) else (some (0, 0, 0, ([] : List (S23)), 6))) else (some (0, 0, 0, ([] : List (S23)), 6)))) else (none)) else (some (0, 0, 0, ([] : List (S23)), 6))) else (none)) else (some (0, 0, 0, ([] : List (S23)), 6))) else (some (0, 0, 0, ([] : List (S23)), 6)))) else (none)) = some (r1, r2, r3, r4, r5) := by rw [if_pos rfl] at H; exact H
            clear H
            have H := H1
            clear H1
            by_cases c28 : 1 < (t267.length : Int)
            ·rw [if_pos c28] at H
             have c28b0 : decide (1 < (t267.length : Int)) = true := decide_eq_true c28
             have c28b1 : decide (1 < t267.length) = true := decide_eq_true (by omega)
             clear c28
             replace H := Option.bind_eq_some_iff.mp H
             obtain ⟨⟨t280, t281⟩, A290, H⟩ := H
             replace H : (if t273 = true then (if t281 = true then (if 2 < (t267.length : Int) then (if ((rdOf ByteArray.empty t267 2).size : Int) = 1 then (if 0 < ((rdOf ByteArray.empty t267 2).size : Int) then ((salvorref16_status.f (bt (rdOf ByteArray.empty t267 2) 0)).bind fun t284 => (if t284 = true then (if t272 = x7_1 then (if t280 < 1 then (some (0, 0, 0, ([] : List (S23)), 6)) else (if t280 > (wrap64 (1099511627776 - x7_1)) then (some (0, 0, 0, ([] : List (S23)), 6)) else ((salvorref16_put.f x262003_1 x7_1 (wrap64 (x7_1 + t280)) (bt (rdOf ByteArray.empty t267 2) 0)).bind fun t286 => (salvorref16_Parse.l0 kj13 t262 true (wrap64 (x7_1 + t280)) (wrap64 (x8_1 + 1)) x262000_1 x262001_1 x262002_1 t286)))) else (some (0, 0, 0, ([] : List (S23)), 6))) else (some (0, 0, 0, ([] : List (S23)), 6)))) else (none)) else (some (0, 0, 0, ([] : List (S23)), 6))) else (none)) else (some (0, 0, 0, ([] : List (S23)), 6))) else (some (0, 0, 0, ([] : List (S23)), 6))) = some (r1, r2, r3, r4, r5) := H
             have A29 := Aside0.mk A290
             clear A290
             by_cases c30 : t273 = true
             ·subst c30
              have H1 : (if t281 = true then (if 2 < (t267.length : Int) then (if ((rdOf ByteArray.empty t267 2).size : Int) = 1 then (if 0 < ((rdOf ByteArray.empty t267 2).size : Int) then ((salvorref16_status.f (bt (rdOf ByteArray.empty t267 2) 0)).bind fun t284 => (if t284 = true then (if t272 = x7_1 then (if t280 < 1 then (some (0, 0, 0, ([] : List (S23)), 6)) else (if t280 > (wrap64 (1099511627776 - x7_1)) then (some (0, 0, 0, ([] : List (S23)), 6)) else ((salvorref16_put.f x262003_1 x7_1 (wrap64 (x7_1 + t280)) (bt (rdOf ByteArray.empty t267 2) 0)).bind fun t286 => (salvorref16_Parse.l0 kj13 t262 true (wrap64 (x7_1 + t280)) (wrap64 (x8_1 + 1)) x262000_1 x262001_1 x262002_1 t286)))) else (some (0, 0, 0, ([] : List (S23)), 6))) else (some (0, 0, 0, ([] : List (S23)), 6)))) else (none)) else (some (0, 0, 0, ([] : List (S23)), 6))) else (none)) else (some (0, 0, 0, ([] : List (S23)), 6))) = some (r1, r2, r3, r4, r5) := by rw [if_pos rfl] at H; exact H
              clear H
              have H := H1
              clear H1
              by_cases c31 : t281 = true
              ·subst c31
               have H1 : (if 2 < (t267.length : Int) then (if ((rdOf ByteArray.empty t267 2).size : Int) = 1 then (if 0 < ((rdOf ByteArray.empty t267 2).size : Int) then ((salvorref16_status.f (bt (rdOf ByteArray.empty t267 2) 0)).bind fun t284 => (if t284 = true then (if t272 = x7_1 then (if t280 < 1 then (some (0, 0, 0, ([] : List (S23)), 6)) else (if t280 > (wrap64 (1099511627776 - x7_1)) then (some (0, 0, 0, ([] : List (S23)), 6)) else ((salvorref16_put.f x262003_1 x7_1 (wrap64 (x7_1 + t280)) (bt (rdOf ByteArray.empty t267 2) 0)).bind fun t286 => (salvorref16_Parse.l0 kj13 t262 true (wrap64 (x7_1 + t280)) (wrap64 (x8_1 + 1)) x262000_1 x262001_1 x262002_1 t286)))) else (some (0, 0, 0, ([] : List (S23)), 6))) else (some (0, 0, 0, ([] : List (S23)), 6)))) else (none)) else (some (0, 0, 0, ([] : List (S23)), 6))) else (none)) = some (r1, r2, r3, r4, r5) := by rw [if_pos rfl] at H; exact H
               clear H
               have H := H1
               clear H1
               by_cases c32 : 2 < (t267.length : Int)
               ·rw [if_pos c32] at H
                have c32b0 : decide (2 < (t267.length : Int)) = true := decide_eq_true c32
                have c32b1 : decide (2 < t267.length) = true := decide_eq_true (by omega)
                clear c32
                by_cases c33 : ((rdOf ByteArray.empty t267 2).size : Int) = 1
                ·rw [if_pos c33] at H
                 have c33b0 : (((rdOf ByteArray.empty t267 2).size : Int) == 1) = true := beq_iff_eq.mpr c33
                 have c33b1 : (((rdOf ByteArray.empty t267 2).size : Int) != 1) = false := bne_eq_false_iff_eq.mpr c33
                 clear c33
                 by_cases c34 : 0 < ((rdOf ByteArray.empty t267 2).size : Int)
                 ·rw [if_pos c34] at H
                  have c34b0 : decide (0 < ((rdOf ByteArray.empty t267 2).size : Int)) = true := decide_eq_true c34
                  have c34b1 : decide (0 < (rdOf ByteArray.empty t267 2).size) = true := decide_eq_true (by omega)
                  clear c34
                  replace H := Option.bind_eq_some_iff.mp H
                  obtain ⟨t284, A360, H⟩ := H
                  replace H : (if t284 = true then (if t272 = x7_1 then (if t280 < 1 then (some (0, 0, 0, ([] : List (S23)), 6)) else (if t280 > (wrap64 (1099511627776 - x7_1)) then (some (0, 0, 0, ([] : List (S23)), 6)) else ((salvorref16_put.f x262003_1 x7_1 (wrap64 (x7_1 + t280)) (bt (rdOf ByteArray.empty t267 2) 0)).bind fun t286 => (salvorref16_Parse.l0 kj13 t262 true (wrap64 (x7_1 + t280)) (wrap64 (x8_1 + 1)) x262000_1 x262001_1 x262002_1 t286)))) else (some (0, 0, 0, ([] : List (S23)), 6))) else (some (0, 0, 0, ([] : List (S23)), 6))) = some (r1, r2, r3, r4, r5) := H
                  have A36 := Aside0.mk A360
                  clear A360
                  by_cases c37 : t284 = true
                  ·subst c37
                   have H1 : (if t272 = x7_1 then (if t280 < 1 then (some (0, 0, 0, ([] : List (S23)), 6)) else (if t280 > (wrap64 (1099511627776 - x7_1)) then (some (0, 0, 0, ([] : List (S23)), 6)) else ((salvorref16_put.f x262003_1 x7_1 (wrap64 (x7_1 + t280)) (bt (rdOf ByteArray.empty t267 2) 0)).bind fun t286 => (salvorref16_Parse.l0 kj13 t262 true (wrap64 (x7_1 + t280)) (wrap64 (x8_1 + 1)) x262000_1 x262001_1 x262002_1 t286)))) else (some (0, 0, 0, ([] : List (S23)), 6))) = some (r1, r2, r3, r4, r5) := by rw [if_pos rfl] at H; exact H
                   clear H
                   have H := H1
                   clear H1
                   by_cases c38 : t272 = x7_1
                   ·rw [if_pos c38] at H
                    have c38b0 : (t272 == x7_1) = true := beq_iff_eq.mpr c38
                    have c38b1 : (t272 != x7_1) = false := bne_eq_false_iff_eq.mpr c38
                    clear c38
                    by_cases c39 : t280 < 1
                    ·rw [if_pos c39] at H
                     have c39b0 : decide (t280 < 1) = true := decide_eq_true c39
                     clear c39
                     simp only [Option.some.injEq, Prod.mk.injEq] at H
                     obtain ⟨rfl, rfl, rfl, rfl, rfl⟩ := H
                     obtain ⟨Ao40, co40, eo40⟩ := Kd.R_slice HO_9.out
                     subst eo40
                     have p271 : 0 ≤ (0 : Int) := (by omega)
                     have q271 : 0 < (t267.length : Int) := of_decide_eq_true (by first | (with_reducible assumption) | assumption)
                     obtain ⟨ad271, e271, hx271_0⟩ := Kd.at_string (Kd.R_reads' HO_9.out).2.2 0 p271 q271
                     cases e271
                     have qi271 : (0 < t267.length) = True := eq_true (by omega)
                     (try rw [show ((0 : Int)).toNat = 0 from rfl] at hx271_0)
                     (try rw [Addr.add_zero'] at hx271_0)
                     replace p271 := eq_true p271
                     replace q271 := eq_true q271
                     go_wp2_with (first | ((with_reducible refine gate_callee (f := 45) rfl ?_); refine gl_ (some 51) rfl rfl Tryz.func45 (by kernel_rfl) rfl #[.string (rdOf ByteArray.empty t267 0)] rfl ?_; (with_reducible refine (salvorref16_place.calls kj13 (rdOf ByteArray.empty t267 0) t272 true _ A26.out).mono ?_); rintro e w' ⟨rfl, ⟨nd, rfl⟩⟩; refine ⟨_, rfl, ?_⟩; (try (rw [drewN_self wc]; generalize hq_ : World.drewN wc _ = wc; have n0_ : Aside0 (Kd.R k23 23 wc w.heap.size (fun _ => True) u262003 x262003_1) := ⟨by rw [← hq_]; exact (by (with_reducible repeat (first | apply Kd.R_alloc | apply Kd.R_drewN | apply Kd.R_drew)); exact HO_262003.out)⟩; have n1_ : Aside0 (Kd.R Kd.string 9 wc w.heap.size (fun k_ => some k_ ≠ (.slice (some ad271) t267.length co40 : Value).ownBlock) (.slice (some ad266) t262.length co15) t262) := ⟨by rw [← hq_]; exact (by (with_reducible repeat (first | apply Kd.R_alloc | apply Kd.R_drewN | apply Kd.R_drew)); exact HO_5.out)⟩; have n2_ : Aside0 (Kd.R Kd.string 9 wc w.heap.size (fun k_ => some k_ ≠ (.slice (some ad266) t262.length co15 : Value).ownBlock) (.slice (some ad271) t267.length co40) t267) := ⟨by rw [← hq_]; exact (by (with_reducible repeat (first | apply Kd.R_alloc | apply Kd.R_drewN | apply Kd.R_drew)); exact HO_9.out)⟩; have n3_ : Aside0 (wc.heap[gb260]? = some (.cells #[.int .i64 x261000_1, .int .i64 x261001_1, .int .u8 x261002_1, .slice none 0 0] 26 (0, 0))) := ⟨by rw [← hq_]; exact (bq_ BK260)⟩; have n4_ : Aside0 (wc.heap[gb261]? = some (.cells #[.int .i64 x262000_1, .int .i64 x262001_1, .int .u8 x262002_1, u262003] 26 (0, 0))) := ⟨by rw [← hq_]; exact (bq_ BK261)⟩; have n5_ : Aside0 (Below w.heap.size w wc) := ⟨by rw [← hq_]; exact (bh_ HB)⟩; clear HO_262003 HO_5 HO_9 BK260 BK261 HB hq_; have HO_262003 := n0_; have HO_5 := n1_; have HO_9 := n2_; have BK260 := n3_; have BK261 := n4_; have HB := n5_; clear n0_ n1_ n2_ n3_ n4_ n5_)); have p279 : 0 ≤ (1 : Int) := (by omega); have q279 : 1 < (t267.length : Int) := of_decide_eq_true (by first | (with_reducible assumption) | assumption); obtain ⟨ad279, e279, hx279_0⟩ := Kd.at_string (Kd.R_reads' HO_9.out).2.2 1 p279 q279; obtain rfl : ad271 = ad279 := (by injection e279); (try simp only [show (1 : Int).toNat = 1 from rfl, Nat.reduceMul, Nat.reduceEqDiff, Go.Addr.add, ↓reduceIte] at hx279_0); have qi279 : (1 < t267.length) = True := eq_true (by omega); (try rw [show ((1 : Int)).toNat = 1 from rfl] at hx279_0); replace p279 := eq_true p279; replace q279 := eq_true q279) | ((with_reducible refine gate_callee (f := 45) rfl ?_); refine gl_ (some 90) rfl rfl Tryz.func45 (by kernel_rfl) rfl #[.string (rdOf ByteArray.empty t267 1)] rfl ?_; (with_reducible refine (salvorref16_place.calls kj13 (rdOf ByteArray.empty t267 1) t280 true _ A29.out).mono ?_); rintro e w' ⟨rfl, ⟨nd, rfl⟩⟩; refine ⟨_, rfl, ?_⟩; (try (rw [drewN_self wc]; generalize hq_ : World.drewN wc _ = wc; have n0_ : Aside0 (Kd.R k23 23 wc w.heap.size (fun _ => True) u262003 x262003_1) := ⟨by rw [← hq_]; exact (by (with_reducible repeat (first | apply Kd.R_alloc | apply Kd.R_drewN | apply Kd.R_drew)); exact HO_262003.out)⟩; have n1_ : Aside0 (Kd.R Kd.string 9 wc w.heap.size (fun k_ => some k_ ≠ (.slice (some ad271) t267.length co40 : Value).ownBlock) (.slice (some ad266) t262.length co15) t262) := ⟨by rw [← hq_]; exact (by (with_reducible repeat (first | apply Kd.R_alloc | apply Kd.R_drewN | apply Kd.R_drew)); exact HO_5.out)⟩; have n2_ : Aside0 (Kd.R Kd.string 9 wc w.heap.size (fun k_ => some k_ ≠ (.slice (some ad266) t262.length co15 : Value).ownBlock) (.slice (some ad271) t267.length co40) t267) := ⟨by rw [← hq_]; exact (by (with_reducible repeat (first | apply Kd.R_alloc | apply Kd.R_drewN | apply Kd.R_drew)); exact HO_9.out)⟩; have n3_ : Aside0 (wc.heap[gb260]? = some (.cells #[.int .i64 x261000_1, .int .i64 x261001_1, .int .u8 x261002_1, .slice none 0 0] 26 (0, 0))) := ⟨by rw [← hq_]; exact (bq_ BK260)⟩; have n4_ : Aside0 (wc.heap[gb261]? = some (.cells #[.int .i64 x262000_1, .int .i64 x262001_1, .int .u8 x262002_1, u262003] 26 (0, 0))) := ⟨by rw [← hq_]; exact (bq_ BK261)⟩; have n5_ : Aside0 (Below w.heap.size w wc) := ⟨by rw [← hq_]; exact (bh_ HB)⟩; clear HO_262003 HO_5 HO_9 BK260 BK261 HB hq_; have HO_262003 := n0_; have HO_5 := n1_; have HO_9 := n2_; have BK260 := n3_; have BK261 := n4_; have HB := n5_; clear n0_ n1_ n2_ n3_ n4_ n5_)); have p282 : 0 ≤ (2 : Int) := (by omega); have q282 : 2 < (t267.length : Int) := of_decide_eq_true (by first | (with_reducible assumption) | assumption); obtain ⟨ad282, e282, hx282_0⟩ := Kd.at_string (Kd.R_reads' HO_9.out).2.2 2 p282 q282; obtain rfl : ad271 = ad282 := (by injection e282); (try simp only [show (2 : Int).toNat = 2 from rfl, Nat.reduceMul, Nat.reduceEqDiff, Go.Addr.add, ↓reduceIte] at hx282_0); have qi282 : (2 < t267.length) = True := eq_true (by omega); (try rw [show ((2 : Int)).toNat = 2 from rfl] at hx282_0); replace p282 := eq_true p282; replace q282 := eq_true q282; have p283 : 0 ≤ (2 : Int) := (by omega); have q283 : 2 < (t267.length : Int) := of_decide_eq_true (by first | (with_reducible assumption) | assumption); obtain ⟨ad283, e283, hx283_0⟩ := Kd.at_string (Kd.R_reads' HO_9.out).2.2 2 p283 q283; obtain rfl : ad271 = ad283 := (by injection e283); (try simp only [show (2 : Int).toNat = 2 from rfl, Nat.reduceMul, Nat.reduceEqDiff, Go.Addr.add, ↓reduceIte] at hx283_0); have qi283 : (2 < t267.length) = True := eq_true (by omega); (try rw [show ((2 : Int)).toNat = 2 from rfl] at hx283_0); replace p283 := eq_true p283; replace q283 := eq_true q283; have p35 : 0 ≤ (0 : Int) := (by omega); have q35 : 0 < (rdOf ByteArray.empty t267 2).size := (by have : (0 : Int) < ((rdOf ByteArray.empty t267 2).size : Int) := of_decide_eq_true (by first | (with_reducible assumption) | assumption); omega); have hx35 : ∀ h : 0 < (rdOf ByteArray.empty t267 2).size, (((rdOf ByteArray.empty t267 2)[0]'h).toNat : Int) = bt (rdOf ByteArray.empty t267 2) 0 := bt_at (rdOf ByteArray.empty t267 2) 0; clear p35; have qi35 : (0 < ((rdOf ByteArray.empty t267 2).size : Int)) = True := eq_true (of_decide_eq_true (by first | (with_reducible assumption) | assumption)); replace q35 := eq_true q35) | (go_at_call 40; (with_reducible refine (salvorref16_status.calls (bt (rdOf ByteArray.empty t267 2) 0) true _ A36.out).mono ?_); rintro e w' ⟨rfl, ⟨nd, rfl⟩⟩; (try (rw [drewN_self wc]; generalize hq_ : World.drewN wc _ = wc; have n0_ : Aside0 (Kd.R k23 23 wc w.heap.size (fun _ => True) u262003 x262003_1) := ⟨by rw [← hq_]; exact (by (with_reducible repeat (first | apply Kd.R_alloc | apply Kd.R_drewN | apply Kd.R_drew)); exact HO_262003.out)⟩; have n1_ : Aside0 (Kd.R Kd.string 9 wc w.heap.size (fun k_ => some k_ ≠ (.slice (some ad271) t267.length co40 : Value).ownBlock) (.slice (some ad266) t262.length co15) t262) := ⟨by rw [← hq_]; exact (by (with_reducible repeat (first | apply Kd.R_alloc | apply Kd.R_drewN | apply Kd.R_drew)); exact HO_5.out)⟩; have n2_ : Aside0 (Kd.R Kd.string 9 wc w.heap.size (fun k_ => some k_ ≠ (.slice (some ad266) t262.length co15 : Value).ownBlock) (.slice (some ad271) t267.length co40) t267) := ⟨by rw [← hq_]; exact (by (with_reducible repeat (first | apply Kd.R_alloc | apply Kd.R_drewN | apply Kd.R_drew)); exact HO_9.out)⟩; have n3_ : Aside0 (wc.heap[gb260]? = some (.cells #[.int .i64 x261000_1, .int .i64 x261001_1, .int .u8 x261002_1, .slice none 0 0] 26 (0, 0))) := ⟨by rw [← hq_]; exact (bq_ BK260)⟩; have n4_ : Aside0 (wc.heap[gb261]? = some (.cells #[.int .i64 x262000_1, .int .i64 x262001_1, .int .u8 x262002_1, u262003] 26 (0, 0))) := ⟨by rw [← hq_]; exact (bq_ BK261)⟩; have n5_ : Aside0 (Below w.heap.size w wc) := ⟨by rw [← hq_]; exact (bh_ HB)⟩; clear HO_262003 HO_5 HO_9 BK260 BK261 HB hq_; have HO_262003 := n0_; have HO_5 := n1_; have HO_9 := n2_; have BK260 := n3_; have BK261 := n4_; have HB := n5_; clear n0_ n1_ n2_ n3_ n4_ n5_)); have hnb41 := NB260_261.out; have hnc41 := NB261_260.out; obtain ⟨hcz42_0, hcz42_1, hcz42_2, hcz42_3, hfz42_0, hfz42_1, hfz42_2, hfz42_3⟩ := c4_ BK260))
                     refine bodyPost_ret (results_ct rfl _ _ gb260 26 #[.int .i64 0, .int .i64 0, .int .u8 0, .slice none 0 0] (0, 0) _ rfl (bp_ BK260) Tryz.underlying26 rfl (by kernel_rfl)) rfl ?_
                     exact ⟨_, by first | rfl | (simp [errW_none, errW_some] <;> rfl) | (simp [*, errW_none, errW_some] <;> rfl), by first | exact Kd.R_nil _ _ _ _ _ | exact Kd.N_nil _ _ _ _ _ | exact Kd.V_nil _ _ _ _ _ | exact Kd.Q_nil _ _ _ _ _ | exact Kd.S_nil _ _ _ _ _, bh_ HB⟩
                    ·rw [if_neg c39] at H
                     have c39b0 : decide (t280 < 1) = false := decide_eq_false c39
                     clear c39
                     by_cases c43 : t280 > (wrap64 (1099511627776 - x7_1))
                     ·rw [if_pos c43] at H
                      have c43b0 : decide ((wrap64 (1099511627776 - x7_1)) < t280) = true := decide_eq_true c43
                      clear c43
                      simp only [Option.some.injEq, Prod.mk.injEq] at H
                      obtain ⟨rfl, rfl, rfl, rfl, rfl⟩ := H
                      obtain ⟨Ao44, co44, eo44⟩ := Kd.R_slice HO_9.out
                      subst eo44
                      have p271 : 0 ≤ (0 : Int) := (by omega)
                      have q271 : 0 < (t267.length : Int) := of_decide_eq_true (by first | (with_reducible assumption) | assumption)
                      obtain ⟨ad271, e271, hx271_0⟩ := Kd.at_string (Kd.R_reads' HO_9.out).2.2 0 p271 q271
                      cases e271
                      have qi271 : (0 < t267.length) = True := eq_true (by omega)
                      (try rw [show ((0 : Int)).toNat = 0 from rfl] at hx271_0)
                      (try rw [Addr.add_zero'] at hx271_0)
                      replace p271 := eq_true p271
                      replace q271 := eq_true q271
                      go_wp2_with (first | ((with_reducible refine gate_callee (f := 45) rfl ?_); refine gl_ (some 51) rfl rfl Tryz.func45 (by kernel_rfl) rfl #[.string (rdOf ByteArray.empty t267 0)] rfl ?_; (with_reducible refine (salvorref16_place.calls kj13 (rdOf ByteArray.empty t267 0) t272 true _ A26.out).mono ?_); rintro e w' ⟨rfl, ⟨nd, rfl⟩⟩; refine ⟨_, rfl, ?_⟩; (try (rw [drewN_self wc]; generalize hq_ : World.drewN wc _ = wc; have n0_ : Aside0 (Kd.R k23 23 wc w.heap.size (fun _ => True) u262003 x262003_1) := ⟨by rw [← hq_]; exact (by (with_reducible repeat (first | apply Kd.R_alloc | apply Kd.R_drewN | apply Kd.R_drew)); exact HO_262003.out)⟩; have n1_ : Aside0 (Kd.R Kd.string 9 wc w.heap.size (fun k_ => some k_ ≠ (.slice (some ad271) t267.length co44 : Value).ownBlock) (.slice (some ad266) t262.length co15) t262) := ⟨by rw [← hq_]; exact (by (with_reducible repeat (first | apply Kd.R_alloc | apply Kd.R_drewN | apply Kd.R_drew)); exact HO_5.out)⟩; have n2_ : Aside0 (Kd.R Kd.string 9 wc w.heap.size (fun k_ => some k_ ≠ (.slice (some ad266) t262.length co15 : Value).ownBlock) (.slice (some ad271) t267.length co44) t267) := ⟨by rw [← hq_]; exact (by (with_reducible repeat (first | apply Kd.R_alloc | apply Kd.R_drewN | apply Kd.R_drew)); exact HO_9.out)⟩; have n3_ : Aside0 (wc.heap[gb260]? = some (.cells #[.int .i64 x261000_1, .int .i64 x261001_1, .int .u8 x261002_1, .slice none 0 0] 26 (0, 0))) := ⟨by rw [← hq_]; exact (bq_ BK260)⟩; have n4_ : Aside0 (wc.heap[gb261]? = some (.cells #[.int .i64 x262000_1, .int .i64 x262001_1, .int .u8 x262002_1, u262003] 26 (0, 0))) := ⟨by rw [← hq_]; exact (bq_ BK261)⟩; have n5_ : Aside0 (Below w.heap.size w wc) := ⟨by rw [← hq_]; exact (bh_ HB)⟩; clear HO_262003 HO_5 HO_9 BK260 BK261 HB hq_; have HO_262003 := n0_; have HO_5 := n1_; have HO_9 := n2_; have BK260 := n3_; have BK261 := n4_; have HB := n5_; clear n0_ n1_ n2_ n3_ n4_ n5_)); have p279 : 0 ≤ (1 : Int) := (by omega); have q279 : 1 < (t267.length : Int) := of_decide_eq_true (by first | (with_reducible assumption) | assumption); obtain ⟨ad279, e279, hx279_0⟩ := Kd.at_string (Kd.R_reads' HO_9.out).2.2 1 p279 q279; obtain rfl : ad271 = ad279 := (by injection e279); (try simp only [show (1 : Int).toNat = 1 from rfl, Nat.reduceMul, Nat.reduceEqDiff, Go.Addr.add, ↓reduceIte] at hx279_0); have qi279 : (1 < t267.length) = True := eq_true (by omega); (try rw [show ((1 : Int)).toNat = 1 from rfl] at hx279_0); replace p279 := eq_true p279; replace q279 := eq_true q279) | ((with_reducible refine gate_callee (f := 45) rfl ?_); refine gl_ (some 90) rfl rfl Tryz.func45 (by kernel_rfl) rfl #[.string (rdOf ByteArray.empty t267 1)] rfl ?_; (with_reducible refine (salvorref16_place.calls kj13 (rdOf ByteArray.empty t267 1) t280 true _ A29.out).mono ?_); rintro e w' ⟨rfl, ⟨nd, rfl⟩⟩; refine ⟨_, rfl, ?_⟩; (try (rw [drewN_self wc]; generalize hq_ : World.drewN wc _ = wc; have n0_ : Aside0 (Kd.R k23 23 wc w.heap.size (fun _ => True) u262003 x262003_1) := ⟨by rw [← hq_]; exact (by (with_reducible repeat (first | apply Kd.R_alloc | apply Kd.R_drewN | apply Kd.R_drew)); exact HO_262003.out)⟩; have n1_ : Aside0 (Kd.R Kd.string 9 wc w.heap.size (fun k_ => some k_ ≠ (.slice (some ad271) t267.length co44 : Value).ownBlock) (.slice (some ad266) t262.length co15) t262) := ⟨by rw [← hq_]; exact (by (with_reducible repeat (first | apply Kd.R_alloc | apply Kd.R_drewN | apply Kd.R_drew)); exact HO_5.out)⟩; have n2_ : Aside0 (Kd.R Kd.string 9 wc w.heap.size (fun k_ => some k_ ≠ (.slice (some ad266) t262.length co15 : Value).ownBlock) (.slice (some ad271) t267.length co44) t267) := ⟨by rw [← hq_]; exact (by (with_reducible repeat (first | apply Kd.R_alloc | apply Kd.R_drewN | apply Kd.R_drew)); exact HO_9.out)⟩; have n3_ : Aside0 (wc.heap[gb260]? = some (.cells #[.int .i64 x261000_1, .int .i64 x261001_1, .int .u8 x261002_1, .slice none 0 0] 26 (0, 0))) := ⟨by rw [← hq_]; exact (bq_ BK260)⟩; have n4_ : Aside0 (wc.heap[gb261]? = some (.cells #[.int .i64 x262000_1, .int .i64 x262001_1, .int .u8 x262002_1, u262003] 26 (0, 0))) := ⟨by rw [← hq_]; exact (bq_ BK261)⟩; have n5_ : Aside0 (Below w.heap.size w wc) := ⟨by rw [← hq_]; exact (bh_ HB)⟩; clear HO_262003 HO_5 HO_9 BK260 BK261 HB hq_; have HO_262003 := n0_; have HO_5 := n1_; have HO_9 := n2_; have BK260 := n3_; have BK261 := n4_; have HB := n5_; clear n0_ n1_ n2_ n3_ n4_ n5_)); have p282 : 0 ≤ (2 : Int) := (by omega); have q282 : 2 < (t267.length : Int) := of_decide_eq_true (by first | (with_reducible assumption) | assumption); obtain ⟨ad282, e282, hx282_0⟩ := Kd.at_string (Kd.R_reads' HO_9.out).2.2 2 p282 q282; obtain rfl : ad271 = ad282 := (by injection e282); (try simp only [show (2 : Int).toNat = 2 from rfl, Nat.reduceMul, Nat.reduceEqDiff, Go.Addr.add, ↓reduceIte] at hx282_0); have qi282 : (2 < t267.length) = True := eq_true (by omega); (try rw [show ((2 : Int)).toNat = 2 from rfl] at hx282_0); replace p282 := eq_true p282; replace q282 := eq_true q282; have p283 : 0 ≤ (2 : Int) := (by omega); have q283 : 2 < (t267.length : Int) := of_decide_eq_true (by first | (with_reducible assumption) | assumption); obtain ⟨ad283, e283, hx283_0⟩ := Kd.at_string (Kd.R_reads' HO_9.out).2.2 2 p283 q283; obtain rfl : ad271 = ad283 := (by injection e283); (try simp only [show (2 : Int).toNat = 2 from rfl, Nat.reduceMul, Nat.reduceEqDiff, Go.Addr.add, ↓reduceIte] at hx283_0); have qi283 : (2 < t267.length) = True := eq_true (by omega); (try rw [show ((2 : Int)).toNat = 2 from rfl] at hx283_0); replace p283 := eq_true p283; replace q283 := eq_true q283; have p35 : 0 ≤ (0 : Int) := (by omega); have q35 : 0 < (rdOf ByteArray.empty t267 2).size := (by have : (0 : Int) < ((rdOf ByteArray.empty t267 2).size : Int) := of_decide_eq_true (by first | (with_reducible assumption) | assumption); omega); have hx35 : ∀ h : 0 < (rdOf ByteArray.empty t267 2).size, (((rdOf ByteArray.empty t267 2)[0]'h).toNat : Int) = bt (rdOf ByteArray.empty t267 2) 0 := bt_at (rdOf ByteArray.empty t267 2) 0; clear p35; have qi35 : (0 < ((rdOf ByteArray.empty t267 2).size : Int)) = True := eq_true (of_decide_eq_true (by first | (with_reducible assumption) | assumption)); replace q35 := eq_true q35) | (go_at_call 40; (with_reducible refine (salvorref16_status.calls (bt (rdOf ByteArray.empty t267 2) 0) true _ A36.out).mono ?_); rintro e w' ⟨rfl, ⟨nd, rfl⟩⟩; (try (rw [drewN_self wc]; generalize hq_ : World.drewN wc _ = wc; have n0_ : Aside0 (Kd.R k23 23 wc w.heap.size (fun _ => True) u262003 x262003_1) := ⟨by rw [← hq_]; exact (by (with_reducible repeat (first | apply Kd.R_alloc | apply Kd.R_drewN | apply Kd.R_drew)); exact HO_262003.out)⟩; have n1_ : Aside0 (Kd.R Kd.string 9 wc w.heap.size (fun k_ => some k_ ≠ (.slice (some ad271) t267.length co44 : Value).ownBlock) (.slice (some ad266) t262.length co15) t262) := ⟨by rw [← hq_]; exact (by (with_reducible repeat (first | apply Kd.R_alloc | apply Kd.R_drewN | apply Kd.R_drew)); exact HO_5.out)⟩; have n2_ : Aside0 (Kd.R Kd.string 9 wc w.heap.size (fun k_ => some k_ ≠ (.slice (some ad266) t262.length co15 : Value).ownBlock) (.slice (some ad271) t267.length co44) t267) := ⟨by rw [← hq_]; exact (by (with_reducible repeat (first | apply Kd.R_alloc | apply Kd.R_drewN | apply Kd.R_drew)); exact HO_9.out)⟩; have n3_ : Aside0 (wc.heap[gb260]? = some (.cells #[.int .i64 x261000_1, .int .i64 x261001_1, .int .u8 x261002_1, .slice none 0 0] 26 (0, 0))) := ⟨by rw [← hq_]; exact (bq_ BK260)⟩; have n4_ : Aside0 (wc.heap[gb261]? = some (.cells #[.int .i64 x262000_1, .int .i64 x262001_1, .int .u8 x262002_1, u262003] 26 (0, 0))) := ⟨by rw [← hq_]; exact (bq_ BK261)⟩; have n5_ : Aside0 (Below w.heap.size w wc) := ⟨by rw [← hq_]; exact (bh_ HB)⟩; clear HO_262003 HO_5 HO_9 BK260 BK261 HB hq_; have HO_262003 := n0_; have HO_5 := n1_; have HO_9 := n2_; have BK260 := n3_; have BK261 := n4_; have HB := n5_; clear n0_ n1_ n2_ n3_ n4_ n5_)); have hnb45 := NB260_261.out; have hnc45 := NB261_260.out; obtain ⟨hcz46_0, hcz46_1, hcz46_2, hcz46_3, hfz46_0, hfz46_1, hfz46_2, hfz46_3⟩ := c4_ BK260))
                      refine bodyPost_ret (results_ct rfl _ _ gb260 26 #[.int .i64 0, .int .i64 0, .int .u8 0, .slice none 0 0] (0, 0) _ rfl (bp_ BK260) Tryz.underlying26 rfl (by kernel_rfl)) rfl ?_
                      exact ⟨_, by first | rfl | (simp [errW_none, errW_some] <;> rfl) | (simp [*, errW_none, errW_some] <;> rfl), by first | exact Kd.R_nil _ _ _ _ _ | exact Kd.N_nil _ _ _ _ _ | exact Kd.V_nil _ _ _ _ _ | exact Kd.Q_nil _ _ _ _ _ | exact Kd.S_nil _ _ _ _ _, bh_ HB⟩
                     ·rw [if_neg c43] at H
                      have c43b0 : decide ((wrap64 (1099511627776 - x7_1)) < t280) = false := decide_eq_false c43
                      clear c43
                      replace H := Option.bind_eq_some_iff.mp H
                      obtain ⟨t286, A480, H⟩ := H
                      replace H : (salvorref16_Parse.l0 kj13 t262 true (wrap64 (x7_1 + t280)) (wrap64 (x8_1 + 1)) x262000_1 x262001_1 x262002_1 t286) = some (r1, r2, r3, r4, r5) := H
                      have A48 := Aside0.mk A480
                      clear A480
                      have H' := Aside0.mk H
                      clear H
                      obtain ⟨Ao49, co49, eo49⟩ := Kd.R_slice HO_9.out
                      subst eo49
                      have p271 : 0 ≤ (0 : Int) := (by omega)
                      have q271 : 0 < (t267.length : Int) := of_decide_eq_true (by first | (with_reducible assumption) | assumption)
                      obtain ⟨ad271, e271, hx271_0⟩ := Kd.at_string (Kd.R_reads' HO_9.out).2.2 0 p271 q271
                      cases e271
                      have qi271 : (0 < t267.length) = True := eq_true (by omega)
                      (try rw [show ((0 : Int)).toNat = 0 from rfl] at hx271_0)
                      (try rw [Addr.add_zero'] at hx271_0)
                      replace p271 := eq_true p271
                      replace q271 := eq_true q271
                      try go_wp2_with (first | ((with_reducible refine gate_callee (f := 45) rfl ?_); refine gl_ (some 51) rfl rfl Tryz.func45 (by kernel_rfl) rfl #[.string (rdOf ByteArray.empty t267 0)] rfl ?_; (with_reducible refine (salvorref16_place.calls kj13 (rdOf ByteArray.empty t267 0) t272 true _ A26.out).mono ?_); rintro e w' ⟨rfl, ⟨nd, rfl⟩⟩; refine ⟨_, rfl, ?_⟩; (try (rw [drewN_self wc]; generalize hq_ : World.drewN wc _ = wc; have n0_ : Aside0 (Kd.R k23 23 wc w.heap.size (fun _ => True) u262003 x262003_1) := ⟨by rw [← hq_]; exact (by (with_reducible repeat (first | apply Kd.R_alloc | apply Kd.R_drewN | apply Kd.R_drew)); exact HO_262003.out)⟩; have n1_ : Aside0 (Kd.R Kd.string 9 wc w.heap.size (fun k_ => some k_ ≠ (.slice (some ad271) t267.length co49 : Value).ownBlock) (.slice (some ad266) t262.length co15) t262) := ⟨by rw [← hq_]; exact (by (with_reducible repeat (first | apply Kd.R_alloc | apply Kd.R_drewN | apply Kd.R_drew)); exact HO_5.out)⟩; have n2_ : Aside0 (Kd.R Kd.string 9 wc w.heap.size (fun k_ => some k_ ≠ (.slice (some ad266) t262.length co15 : Value).ownBlock) (.slice (some ad271) t267.length co49) t267) := ⟨by rw [← hq_]; exact (by (with_reducible repeat (first | apply Kd.R_alloc | apply Kd.R_drewN | apply Kd.R_drew)); exact HO_9.out)⟩; have n3_ : Aside0 (wc.heap[gb260]? = some (.cells #[.int .i64 x261000_1, .int .i64 x261001_1, .int .u8 x261002_1, .slice none 0 0] 26 (0, 0))) := ⟨by rw [← hq_]; exact (bq_ BK260)⟩; have n4_ : Aside0 (wc.heap[gb261]? = some (.cells #[.int .i64 x262000_1, .int .i64 x262001_1, .int .u8 x262002_1, u262003] 26 (0, 0))) := ⟨by rw [← hq_]; exact (bq_ BK261)⟩; have n5_ : Aside0 (Below w.heap.size w wc) := ⟨by rw [← hq_]; exact (bh_ HB)⟩; clear HO_262003 HO_5 HO_9 BK260 BK261 HB hq_; have HO_262003 := n0_; have HO_5 := n1_; have HO_9 := n2_; have BK260 := n3_; have BK261 := n4_; have HB := n5_; clear n0_ n1_ n2_ n3_ n4_ n5_)); have p279 : 0 ≤ (1 : Int) := (by omega); have q279 : 1 < (t267.length : Int) := of_decide_eq_true (by first | (with_reducible assumption) | assumption); obtain ⟨ad279, e279, hx279_0⟩ := Kd.at_string (Kd.R_reads' HO_9.out).2.2 1 p279 q279; obtain rfl : ad271 = ad279 := (by injection e279); (try simp only [show (1 : Int).toNat = 1 from rfl, Nat.reduceMul, Nat.reduceEqDiff, Go.Addr.add, ↓reduceIte] at hx279_0); have qi279 : (1 < t267.length) = True := eq_true (by omega); (try rw [show ((1 : Int)).toNat = 1 from rfl] at hx279_0); replace p279 := eq_true p279; replace q279 := eq_true q279) | ((with_reducible refine gate_callee (f := 45) rfl ?_); refine gl_ (some 90) rfl rfl Tryz.func45 (by kernel_rfl) rfl #[.string (rdOf ByteArray.empty t267 1)] rfl ?_; (with_reducible refine (salvorref16_place.calls kj13 (rdOf ByteArray.empty t267 1) t280 true _ A29.out).mono ?_); rintro e w' ⟨rfl, ⟨nd, rfl⟩⟩; refine ⟨_, rfl, ?_⟩; (try (rw [drewN_self wc]; generalize hq_ : World.drewN wc _ = wc; have n0_ : Aside0 (Kd.R k23 23 wc w.heap.size (fun _ => True) u262003 x262003_1) := ⟨by rw [← hq_]; exact (by (with_reducible repeat (first | apply Kd.R_alloc | apply Kd.R_drewN | apply Kd.R_drew)); exact HO_262003.out)⟩; have n1_ : Aside0 (Kd.R Kd.string 9 wc w.heap.size (fun k_ => some k_ ≠ (.slice (some ad271) t267.length co49 : Value).ownBlock) (.slice (some ad266) t262.length co15) t262) := ⟨by rw [← hq_]; exact (by (with_reducible repeat (first | apply Kd.R_alloc | apply Kd.R_drewN | apply Kd.R_drew)); exact HO_5.out)⟩; have n2_ : Aside0 (Kd.R Kd.string 9 wc w.heap.size (fun k_ => some k_ ≠ (.slice (some ad266) t262.length co15 : Value).ownBlock) (.slice (some ad271) t267.length co49) t267) := ⟨by rw [← hq_]; exact (by (with_reducible repeat (first | apply Kd.R_alloc | apply Kd.R_drewN | apply Kd.R_drew)); exact HO_9.out)⟩; have n3_ : Aside0 (wc.heap[gb260]? = some (.cells #[.int .i64 x261000_1, .int .i64 x261001_1, .int .u8 x261002_1, .slice none 0 0] 26 (0, 0))) := ⟨by rw [← hq_]; exact (bq_ BK260)⟩; have n4_ : Aside0 (wc.heap[gb261]? = some (.cells #[.int .i64 x262000_1, .int .i64 x262001_1, .int .u8 x262002_1, u262003] 26 (0, 0))) := ⟨by rw [← hq_]; exact (bq_ BK261)⟩; have n5_ : Aside0 (Below w.heap.size w wc) := ⟨by rw [← hq_]; exact (bh_ HB)⟩; clear HO_262003 HO_5 HO_9 BK260 BK261 HB hq_; have HO_262003 := n0_; have HO_5 := n1_; have HO_9 := n2_; have BK260 := n3_; have BK261 := n4_; have HB := n5_; clear n0_ n1_ n2_ n3_ n4_ n5_)); have p282 : 0 ≤ (2 : Int) := (by omega); have q282 : 2 < (t267.length : Int) := of_decide_eq_true (by first | (with_reducible assumption) | assumption); obtain ⟨ad282, e282, hx282_0⟩ := Kd.at_string (Kd.R_reads' HO_9.out).2.2 2 p282 q282; obtain rfl : ad271 = ad282 := (by injection e282); (try simp only [show (2 : Int).toNat = 2 from rfl, Nat.reduceMul, Nat.reduceEqDiff, Go.Addr.add, ↓reduceIte] at hx282_0); have qi282 : (2 < t267.length) = True := eq_true (by omega); (try rw [show ((2 : Int)).toNat = 2 from rfl] at hx282_0); replace p282 := eq_true p282; replace q282 := eq_true q282; have p283 : 0 ≤ (2 : Int) := (by omega); have q283 : 2 < (t267.length : Int) := of_decide_eq_true (by first | (with_reducible assumption) | assumption); obtain ⟨ad283, e283, hx283_0⟩ := Kd.at_string (Kd.R_reads' HO_9.out).2.2 2 p283 q283; obtain rfl : ad271 = ad283 := (by injection e283); (try simp only [show (2 : Int).toNat = 2 from rfl, Nat.reduceMul, Nat.reduceEqDiff, Go.Addr.add, ↓reduceIte] at hx283_0); have qi283 : (2 < t267.length) = True := eq_true (by omega); (try rw [show ((2 : Int)).toNat = 2 from rfl] at hx283_0); replace p283 := eq_true p283; replace q283 := eq_true q283; have p35 : 0 ≤ (0 : Int) := (by omega); have q35 : 0 < (rdOf ByteArray.empty t267 2).size := (by have : (0 : Int) < ((rdOf ByteArray.empty t267 2).size : Int) := of_decide_eq_true (by first | (with_reducible assumption) | assumption); omega); have hx35 : ∀ h : 0 < (rdOf ByteArray.empty t267 2).size, (((rdOf ByteArray.empty t267 2)[0]'h).toNat : Int) = bt (rdOf ByteArray.empty t267 2) 0 := bt_at (rdOf ByteArray.empty t267 2) 0; clear p35; have qi35 : (0 < ((rdOf ByteArray.empty t267 2).size : Int)) = True := eq_true (of_decide_eq_true (by first | (with_reducible assumption) | assumption)); replace q35 := eq_true q35) | (go_at_call 40; (with_reducible refine (salvorref16_status.calls (bt (rdOf ByteArray.empty t267 2) 0) true _ A36.out).mono ?_); rintro e w' ⟨rfl, ⟨nd, rfl⟩⟩; (try (rw [drewN_self wc]; generalize hq_ : World.drewN wc _ = wc; have n0_ : Aside0 (Kd.R k23 23 wc w.heap.size (fun _ => True) u262003 x262003_1) := ⟨by rw [← hq_]; exact (by (with_reducible repeat (first | apply Kd.R_alloc | apply Kd.R_drewN | apply Kd.R_drew)); exact HO_262003.out)⟩; have n1_ : Aside0 (Kd.R Kd.string 9 wc w.heap.size (fun k_ => some k_ ≠ (.slice (some ad271) t267.length co49 : Value).ownBlock) (.slice (some ad266) t262.length co15) t262) := ⟨by rw [← hq_]; exact (by (with_reducible repeat (first | apply Kd.R_alloc | apply Kd.R_drewN | apply Kd.R_drew)); exact HO_5.out)⟩; have n2_ : Aside0 (Kd.R Kd.string 9 wc w.heap.size (fun k_ => some k_ ≠ (.slice (some ad266) t262.length co15 : Value).ownBlock) (.slice (some ad271) t267.length co49) t267) := ⟨by rw [← hq_]; exact (by (with_reducible repeat (first | apply Kd.R_alloc | apply Kd.R_drewN | apply Kd.R_drew)); exact HO_9.out)⟩; have n3_ : Aside0 (wc.heap[gb260]? = some (.cells #[.int .i64 x261000_1, .int .i64 x261001_1, .int .u8 x261002_1, .slice none 0 0] 26 (0, 0))) := ⟨by rw [← hq_]; exact (bq_ BK260)⟩; have n4_ : Aside0 (wc.heap[gb261]? = some (.cells #[.int .i64 x262000_1, .int .i64 x262001_1, .int .u8 x262002_1, u262003] 26 (0, 0))) := ⟨by rw [← hq_]; exact (bq_ BK261)⟩; have n5_ : Aside0 (Below w.heap.size w wc) := ⟨by rw [← hq_]; exact (bh_ HB)⟩; clear HO_262003 HO_5 HO_9 BK260 BK261 HB hq_; have HO_262003 := n0_; have HO_5 := n1_; have HO_9 := n2_; have BK260 := n3_; have BK261 := n4_; have HB := n5_; clear n0_ n1_ n2_ n3_ n4_ n5_))))
                      replace HO_5 := Aside0.mk (Kd.R_drew HO_5.out)
                      replace HO_9 := Aside0.mk (Kd.R_drew HO_9.out)
                      replace HO_262003 := Aside0.mk (Kd.R_drew HO_262003.out)
                      replace BK260 := Aside0.mk (blk_drew BK260.out)
                      replace BK261 := Aside0.mk (blk_drew BK261.out)
                      replace HB := Aside0.mk (below_drew1 HB.out)
                      have p285 : 0 ≤ (2 : Int) := (by omega)
                      have q285 : 2 < (t267.length : Int) := of_decide_eq_true (by first | (with_reducible assumption) | assumption)
                      obtain ⟨ad285, e285, hx285_0⟩ := Kd.at_string (Kd.R_reads' HO_9.out).2.2 2 p285 q285
                      obtain rfl : ad271 = ad285 := (by injection e285)
                      (try simp only [show (2 : Int).toNat = 2 from rfl, Nat.reduceMul, Nat.reduceEqDiff, Go.Addr.add, ↓reduceIte] at hx285_0)
                      have qi285 : (2 < t267.length) = True := eq_true (by omega)
                      (try rw [show ((2 : Int)).toNat = 2 from rfl] at hx285_0)
                      replace p285 := eq_true p285
                      replace q285 := eq_true q285
                      have p47 : 0 ≤ (0 : Int) := (by omega)
                      have q47 : 0 < (rdOf ByteArray.empty t267 2).size := (by have : (0 : Int) < ((rdOf ByteArray.empty t267 2).size : Int) := of_decide_eq_true (by first | (with_reducible assumption) | assumption); omega)
                      have hx47 : ∀ h : 0 < (rdOf ByteArray.empty t267 2).size, (((rdOf ByteArray.empty t267 2)[0]'h).toNat : Int) = bt (rdOf ByteArray.empty t267 2) 0 := bt_at (rdOf ByteArray.empty t267 2) 0
                      clear p47
                      have qi47 : (0 < ((rdOf ByteArray.empty t267 2).size : Int)) = True := eq_true (of_decide_eq_true (by first | (with_reducible assumption) | assumption))
                      replace q47 := eq_true q47
                      obtain ⟨Ao51, co51, eo51⟩ := Kd.R_slice HO_262003.out
                      (first | subst eo51 | (injection eo51 with f1_ f2_ f3_; have f4_ := f1_.symm; have f5_ := f3_.symm; clear f1_ f2_ f3_; subst f4_; subst f5_))
                      refine start_ (n := 13) (S := fun w' => w'.cell? ⟨gb261, 0, none⟩ = some (.int .i64 x262000_1) ∧ w'.cell? ⟨gb261, 1, none⟩ = some (.int .i64 x262001_1) ∧ w'.cell? ⟨gb261, 2, none⟩ = some (.int .u8 x262002_1) ∧ w'.cell? ⟨gb261, 3, none⟩ = some (.slice Ao51 x262003_1.length co51) ∧ w'.cell? ⟨ad271.block, ad271.off + 2, none⟩ = some (.string (rdOf ByteArray.empty t267 2))) (ds := [12]) #[false, false, false, false, false, false, false, false, false, false, false, false, false] (by kernel_rfl) rfl rfl ⟨(blk_cell BK261.out 0).trans rfl, (blk_cell BK261.out 1).trans rfl, (blk_cell BK261.out 2).trans rfl, (blk_cell BK261.out 3).trans rfl, hx285_0⟩ (fun hHeld => ?_); refine with_tabW salvorref16_Parse.tab22 salvorref16_Parse.bits22 (fun HT_ HW_ => ?_)
                      generalize wc.drew = w50 at HO_5 HO_9 HO_262003 BK260 BK261 HB hx285_0 hHeld ⊢
                      refine pu_ 0 130 (lb_ 13 1) rfl rfl (ao_ HT_) ?_
                      refine pu_ 2 132 (lb_ 13 5) rfl rfl (ao_ HT_) ?_
                      refine pu_ 3 133 (lb_ 13 13) rfl rfl (ao_ HT_) ?_
                      refine pu_ 4 134 (lb_ 13 29) rfl rfl (ao_ HT_) ?_
                      refine pu_ 5 135 (lb_ 13 61) rfl rfl (ao_ HT_) ?_
                      refine pu_ 6 136 (lb_ 13 125) rfl rfl (ao_ HT_) ?_
                      refine pu_ 7 137 (lb_ 13 253) rfl rfl (ao_ HT_) ?_
                      refine tk_ 1 131 (lb_ 13 255) rfl rfl (take_ofW HT_.out HW_.out (by kernel_rfl)) hHeld ?_
                      refine tk_ 8 138 (lb_ 13 511) rfl rfl (take_ofW HT_.out HW_.out (by kernel_rfl)) hHeld ?_
                      refine tk_ 9 139 (lb_ 13 1023) rfl rfl (take_ofW HT_.out HW_.out (by kernel_rfl)) hHeld ?_
                      refine one_ (i := 10) (N := some 140) #[true, true, true, true, true, true, true, true, true, true, true, false, false] rfl rfl (one_of HT_.out (by kernel_rfl)) (by decide) (fun K hK => ?_)
                      refine gq_ Tryz.func47 (by kernel_rfl) rfl #[.slice Ao51 x262003_1.length co51, .int .i64 x7_1, .int .i64 (wrap64 (x7_1 + t280)), .int .u8 (bt (rdOf ByteArray.empty t267 2) 0)] (by rfl) rfl rfl ?_
                      with_reducible refine (salvorref16_put.calls (fun k_ => some k_ = (.slice Ao51 x262003_1.length co51 : Value).ownBlock) (.slice Ao51 x262003_1.length co51) x262003_1 x7_1 (wrap64 (x7_1 + t280)) (bt (rdOf ByteArray.empty t267 2) 0) t286 w _ ?side1 ?side2 A48.out).mono ?_
                      (case side1 => repeat (first | (with_reducible first | exact HB.out | apply below_alloc | apply pw_below_drewN | apply below_drew1 | refine below_set ?_ GE260.out | refine below_set ?_ GE261.out) | exact HB.out))
                      (case side2 => exact Kd.R_tight rfl HO_262003.out)
                      rintro e w52 ⟨v287, rfl, ho0, hb, hkp⟩
                      have HS4_ := Go.Proofs.YtlcablcpcbmgeaaGreatDoorW.PrintWords.cell_kept (hHeld.2.2.2.2) hkp (by first | (rw [add_block]; exact (fun hs_ => ((((Kd.R_apart' HO_9.out (Kd.R_typed HO_262003.out) (by decide))).1 _ rfl).2) hs_)) | (show ¬ _; simp only [add_block]; exact (fun hs_ => ((((Kd.R_apart' HO_9.out (Kd.R_typed HO_262003.out) (by decide))).1 _ rfl).2) hs_)) | exact (fun hs_ => ((((Kd.R_apart' HO_9.out (Kd.R_typed HO_262003.out) (by decide))).1 _ rfl).2) hs_))
                      refine ⟨_, rfl, ?_⟩
                      have HO288 := Aside0.mk (Kd.R_mono (ok' := fun k_ => True) ho0 (fun k_ hk_ => trivial))
                      replace HO_5 := Aside0.mk (Kd.R_mono (ok' := fun k_ => some k_ ≠ (.slice (some ad271) t267.length co49 : Value).ownBlock) (Kd.R_keptB ((Kd.R_apart' HO_5.out (Kd.R_typed HO_262003.out) (by decide))) hkp (fun k_ hk_ hs_ => (hk_.2) hs_)) (fun k_ hk_ => hk_.1.1))
                      replace HO_9 := Aside0.mk (Kd.R_mono (ok' := fun k_ => some k_ ≠ (.slice (some ad266) t262.length co15 : Value).ownBlock) (Kd.R_keptB ((Kd.R_apart' HO_9.out (Kd.R_typed HO_262003.out) (by decide))) hkp (fun k_ hk_ hs_ => (hk_.2) hs_)) (fun k_ hk_ => hk_.1.1))
                      replace BK260 := Aside0.mk (blk_kept (bq_ BK260) hkp (fun hs_ => (fun e_ => (Kd.R_ne HO_262003.out BK260.out (by decide)) e_) hs_))
                      replace BK261 := Aside0.mk (blk_kept (bq_ BK261) hkp (fun hs_ => (fun e_ => (Kd.R_ne HO_262003.out BK261.out (by decide)) e_) hs_))
                      replace HB := Aside0.mk (hb)
                      clear HO_262003
                      (try clear hb)
                      (try clear hkp)
                      (try clear ho0)
                      obtain ⟨Ao53, co53, eo53⟩ := Kd.R_slice HO288.out
                      (first | subst eo53 | (injection eo53 with f1_ f2_ f3_; have f4_ := f1_.symm; have f5_ := f3_.symm; clear f1_ f2_ f3_; subst f4_; subst f5_))
                      refine hK.out _ _ ⟨(blk_cell BK261.out 0).trans rfl, (blk_cell BK261.out 1).trans rfl, (blk_cell BK261.out 2).trans rfl, (blk_cell BK261.out 3).trans rfl, HS4_⟩ (fun hHeld => ?_)
                      clear hK K
                      refine nm_ 140 ?_
                      refine pu_ 11 141 (lb_ 13 4095) rfl rfl (ao_ HT_) ?_
                      refine last_ (i := 12) (N := none) #[true, true, true, true, true, true, true, true, true, true, true, true, true] rfl rfl (one_of HT_.out (by kernel_rfl)) (by decide) (fun K hK => ?_)
                      have hs54 : w52.cell? ⟨gb261, 3, none⟩ = some (.slice Ao51 x262003_1.length co51) := (blk_cell BK261.out 3).trans rfl
                      have hfs54 := blk_frozen BK261.out 3
                      have hns54_0 := NB260_261.out
                      have hms54_0 := NB261_260.out
                      refine skip_ (w1 := ?_) (by rfl) rfl ?_ ?_
                      rotate_left
                      ·go_simp
                       rfl
                      refine hK.out _ _ ?_
                      clear hK K
                      refine done_ (done_of HT_.out (by kernel_rfl)) ?_
                      try go_wp2
                      go_roundg kj13
                      case measure => have := HK1.out; have := HJ13.out; omega
                      case rel => exact ⟨(true), (wrap64 (x7_1 + t280)), (wrap64 (x8_1 + 1)), (x261000_1), (x261001_1), (x261002_1), (x262000_1), (x262001_1), (x262002_1), (t286), (.slice Ao53 t286.length co53), (by first | rfl | (simp; done) | (simp [*]; done)), (by first | rfl | (simp; done) | (simp [*]; done)), (by first | rfl | (simp; done) | (simp [*]; done)), H', ⟨by have := HK1.out; have := HJ13.out; omega⟩, ⟨by (with_reducible repeat (first | apply Kd.R_alloc | apply Kd.R_drewN | apply Kd.R_drew)); exact Kd.R_mono (Kd.R_far (p := ⟨gb261, 3, none⟩) (Kd.R_types HO_5.out BK261.out (by decide)) (fun _ hk => hk.2) (.slice Ao53 t286.length co53)) (fun _ hk => trivial)⟩, ⟨by (with_reducible repeat (first | apply Kd.R_alloc | apply Kd.R_drewN | apply Kd.R_drew)); exact Kd.R_mono (Kd.R_far (p := ⟨gb261, 3, none⟩) (Kd.R_types HO288.out BK261.out (by decide)) (fun _ hk => hk.2) (.slice Ao53 t286.length co53)) (fun _ hk => trivial)⟩, ⟨by (with_reducible repeat (first | refine blk_drewN ?_ _ | refine blk_drew ?_ | refine blk_alloc ?_ _)); refine blk_far ?_ NB260_261.out _; (with_reducible repeat (first | refine blk_drewN ?_ _ | refine blk_drew ?_ | refine blk_alloc ?_ _)); exact BK260.out⟩, ⟨by (with_reducible repeat (first | refine blk_drewN ?_ _ | refine blk_drew ?_ | refine blk_alloc ?_ _)); refine blk_put (cs := #[.int .i64 x262000_1, .int .i64 x262001_1, .int .u8 x262002_1, .slice Ao51 x262003_1.length co51]) ?_ 3 _ rfl; (with_reducible repeat (first | refine blk_drewN ?_ _ | refine blk_drew ?_ | refine blk_alloc ?_ _)); exact BK261.out⟩, ⟨bh_ HB⟩⟩
                   ·rw [if_neg c38] at H
                    have c38b0 : (t272 == x7_1) = false := beq_eq_false_iff_ne.mpr c38
                    have c38b1 : (t272 != x7_1) = true := bne_iff_ne.mpr c38
                    simp only [Option.some.injEq, Prod.mk.injEq] at H
                    obtain ⟨rfl, rfl, rfl, rfl, rfl⟩ := H
                    obtain ⟨Ao55, co55, eo55⟩ := Kd.R_slice HO_9.out
                    subst eo55
                    have p271 : 0 ≤ (0 : Int) := (by omega)
                    have q271 : 0 < (t267.length : Int) := of_decide_eq_true (by first | (with_reducible assumption) | assumption)
                    obtain ⟨ad271, e271, hx271_0⟩ := Kd.at_string (Kd.R_reads' HO_9.out).2.2 0 p271 q271
                    cases e271
                    have qi271 : (0 < t267.length) = True := eq_true (by omega)
                    (try rw [show ((0 : Int)).toNat = 0 from rfl] at hx271_0)
                    (try rw [Addr.add_zero'] at hx271_0)
                    replace p271 := eq_true p271
                    replace q271 := eq_true q271
                    go_wp2_with (first | ((with_reducible refine gate_callee (f := 45) rfl ?_); refine gl_ (some 51) rfl rfl Tryz.func45 (by kernel_rfl) rfl #[.string (rdOf ByteArray.empty t267 0)] rfl ?_; (with_reducible refine (salvorref16_place.calls kj13 (rdOf ByteArray.empty t267 0) t272 true _ A26.out).mono ?_); rintro e w' ⟨rfl, ⟨nd, rfl⟩⟩; refine ⟨_, rfl, ?_⟩; (try (rw [drewN_self wc]; generalize hq_ : World.drewN wc _ = wc; have n0_ : Aside0 (Kd.R k23 23 wc w.heap.size (fun _ => True) u262003 x262003_1) := ⟨by rw [← hq_]; exact (by (with_reducible repeat (first | apply Kd.R_alloc | apply Kd.R_drewN | apply Kd.R_drew)); exact HO_262003.out)⟩; have n1_ : Aside0 (Kd.R Kd.string 9 wc w.heap.size (fun k_ => some k_ ≠ (.slice (some ad271) t267.length co55 : Value).ownBlock) (.slice (some ad266) t262.length co15) t262) := ⟨by rw [← hq_]; exact (by (with_reducible repeat (first | apply Kd.R_alloc | apply Kd.R_drewN | apply Kd.R_drew)); exact HO_5.out)⟩; have n2_ : Aside0 (Kd.R Kd.string 9 wc w.heap.size (fun k_ => some k_ ≠ (.slice (some ad266) t262.length co15 : Value).ownBlock) (.slice (some ad271) t267.length co55) t267) := ⟨by rw [← hq_]; exact (by (with_reducible repeat (first | apply Kd.R_alloc | apply Kd.R_drewN | apply Kd.R_drew)); exact HO_9.out)⟩; have n3_ : Aside0 (wc.heap[gb260]? = some (.cells #[.int .i64 x261000_1, .int .i64 x261001_1, .int .u8 x261002_1, .slice none 0 0] 26 (0, 0))) := ⟨by rw [← hq_]; exact (bq_ BK260)⟩; have n4_ : Aside0 (wc.heap[gb261]? = some (.cells #[.int .i64 x262000_1, .int .i64 x262001_1, .int .u8 x262002_1, u262003] 26 (0, 0))) := ⟨by rw [← hq_]; exact (bq_ BK261)⟩; have n5_ : Aside0 (Below w.heap.size w wc) := ⟨by rw [← hq_]; exact (bh_ HB)⟩; clear HO_262003 HO_5 HO_9 BK260 BK261 HB hq_; have HO_262003 := n0_; have HO_5 := n1_; have HO_9 := n2_; have BK260 := n3_; have BK261 := n4_; have HB := n5_; clear n0_ n1_ n2_ n3_ n4_ n5_)); have p279 : 0 ≤ (1 : Int) := (by omega); have q279 : 1 < (t267.length : Int) := of_decide_eq_true (by first | (with_reducible assumption) | assumption); obtain ⟨ad279, e279, hx279_0⟩ := Kd.at_string (Kd.R_reads' HO_9.out).2.2 1 p279 q279; obtain rfl : ad271 = ad279 := (by injection e279); (try simp only [show (1 : Int).toNat = 1 from rfl, Nat.reduceMul, Nat.reduceEqDiff, Go.Addr.add, ↓reduceIte] at hx279_0); have qi279 : (1 < t267.length) = True := eq_true (by omega); (try rw [show ((1 : Int)).toNat = 1 from rfl] at hx279_0); replace p279 := eq_true p279; replace q279 := eq_true q279) | ((with_reducible refine gate_callee (f := 45) rfl ?_); refine gl_ (some 90) rfl rfl Tryz.func45 (by kernel_rfl) rfl #[.string (rdOf ByteArray.empty t267 1)] rfl ?_; (with_reducible refine (salvorref16_place.calls kj13 (rdOf ByteArray.empty t267 1) t280 true _ A29.out).mono ?_); rintro e w' ⟨rfl, ⟨nd, rfl⟩⟩; refine ⟨_, rfl, ?_⟩; (try (rw [drewN_self wc]; generalize hq_ : World.drewN wc _ = wc; have n0_ : Aside0 (Kd.R k23 23 wc w.heap.size (fun _ => True) u262003 x262003_1) := ⟨by rw [← hq_]; exact (by (with_reducible repeat (first | apply Kd.R_alloc | apply Kd.R_drewN | apply Kd.R_drew)); exact HO_262003.out)⟩; have n1_ : Aside0 (Kd.R Kd.string 9 wc w.heap.size (fun k_ => some k_ ≠ (.slice (some ad271) t267.length co55 : Value).ownBlock) (.slice (some ad266) t262.length co15) t262) := ⟨by rw [← hq_]; exact (by (with_reducible repeat (first | apply Kd.R_alloc | apply Kd.R_drewN | apply Kd.R_drew)); exact HO_5.out)⟩; have n2_ : Aside0 (Kd.R Kd.string 9 wc w.heap.size (fun k_ => some k_ ≠ (.slice (some ad266) t262.length co15 : Value).ownBlock) (.slice (some ad271) t267.length co55) t267) := ⟨by rw [← hq_]; exact (by (with_reducible repeat (first | apply Kd.R_alloc | apply Kd.R_drewN | apply Kd.R_drew)); exact HO_9.out)⟩; have n3_ : Aside0 (wc.heap[gb260]? = some (.cells #[.int .i64 x261000_1, .int .i64 x261001_1, .int .u8 x261002_1, .slice none 0 0] 26 (0, 0))) := ⟨by rw [← hq_]; exact (bq_ BK260)⟩; have n4_ : Aside0 (wc.heap[gb261]? = some (.cells #[.int .i64 x262000_1, .int .i64 x262001_1, .int .u8 x262002_1, u262003] 26 (0, 0))) := ⟨by rw [← hq_]; exact (bq_ BK261)⟩; have n5_ : Aside0 (Below w.heap.size w wc) := ⟨by rw [← hq_]; exact (bh_ HB)⟩; clear HO_262003 HO_5 HO_9 BK260 BK261 HB hq_; have HO_262003 := n0_; have HO_5 := n1_; have HO_9 := n2_; have BK260 := n3_; have BK261 := n4_; have HB := n5_; clear n0_ n1_ n2_ n3_ n4_ n5_)); have p282 : 0 ≤ (2 : Int) := (by omega); have q282 : 2 < (t267.length : Int) := of_decide_eq_true (by first | (with_reducible assumption) | assumption); obtain ⟨ad282, e282, hx282_0⟩ := Kd.at_string (Kd.R_reads' HO_9.out).2.2 2 p282 q282; obtain rfl : ad271 = ad282 := (by injection e282); (try simp only [show (2 : Int).toNat = 2 from rfl, Nat.reduceMul, Nat.reduceEqDiff, Go.Addr.add, ↓reduceIte] at hx282_0); have qi282 : (2 < t267.length) = True := eq_true (by omega); (try rw [show ((2 : Int)).toNat = 2 from rfl] at hx282_0); replace p282 := eq_true p282; replace q282 := eq_true q282; have p283 : 0 ≤ (2 : Int) := (by omega); have q283 : 2 < (t267.length : Int) := of_decide_eq_true (by first | (with_reducible assumption) | assumption); obtain ⟨ad283, e283, hx283_0⟩ := Kd.at_string (Kd.R_reads' HO_9.out).2.2 2 p283 q283; obtain rfl : ad271 = ad283 := (by injection e283); (try simp only [show (2 : Int).toNat = 2 from rfl, Nat.reduceMul, Nat.reduceEqDiff, Go.Addr.add, ↓reduceIte] at hx283_0); have qi283 : (2 < t267.length) = True := eq_true (by omega); (try rw [show ((2 : Int)).toNat = 2 from rfl] at hx283_0); replace p283 := eq_true p283; replace q283 := eq_true q283; have p35 : 0 ≤ (0 : Int) := (by omega); have q35 : 0 < (rdOf ByteArray.empty t267 2).size := (by have : (0 : Int) < ((rdOf ByteArray.empty t267 2).size : Int) := of_decide_eq_true (by first | (with_reducible assumption) | assumption); omega); have hx35 : ∀ h : 0 < (rdOf ByteArray.empty t267 2).size, (((rdOf ByteArray.empty t267 2)[0]'h).toNat : Int) = bt (rdOf ByteArray.empty t267 2) 0 := bt_at (rdOf ByteArray.empty t267 2) 0; clear p35; have qi35 : (0 < ((rdOf ByteArray.empty t267 2).size : Int)) = True := eq_true (of_decide_eq_true (by first | (with_reducible assumption) | assumption)); replace q35 := eq_true q35) | (go_at_call 40; (with_reducible refine (salvorref16_status.calls (bt (rdOf ByteArray.empty t267 2) 0) true _ A36.out).mono ?_); rintro e w' ⟨rfl, ⟨nd, rfl⟩⟩; (try (rw [drewN_self wc]; generalize hq_ : World.drewN wc _ = wc; have n0_ : Aside0 (Kd.R k23 23 wc w.heap.size (fun _ => True) u262003 x262003_1) := ⟨by rw [← hq_]; exact (by (with_reducible repeat (first | apply Kd.R_alloc | apply Kd.R_drewN | apply Kd.R_drew)); exact HO_262003.out)⟩; have n1_ : Aside0 (Kd.R Kd.string 9 wc w.heap.size (fun k_ => some k_ ≠ (.slice (some ad271) t267.length co55 : Value).ownBlock) (.slice (some ad266) t262.length co15) t262) := ⟨by rw [← hq_]; exact (by (with_reducible repeat (first | apply Kd.R_alloc | apply Kd.R_drewN | apply Kd.R_drew)); exact HO_5.out)⟩; have n2_ : Aside0 (Kd.R Kd.string 9 wc w.heap.size (fun k_ => some k_ ≠ (.slice (some ad266) t262.length co15 : Value).ownBlock) (.slice (some ad271) t267.length co55) t267) := ⟨by rw [← hq_]; exact (by (with_reducible repeat (first | apply Kd.R_alloc | apply Kd.R_drewN | apply Kd.R_drew)); exact HO_9.out)⟩; have n3_ : Aside0 (wc.heap[gb260]? = some (.cells #[.int .i64 x261000_1, .int .i64 x261001_1, .int .u8 x261002_1, .slice none 0 0] 26 (0, 0))) := ⟨by rw [← hq_]; exact (bq_ BK260)⟩; have n4_ : Aside0 (wc.heap[gb261]? = some (.cells #[.int .i64 x262000_1, .int .i64 x262001_1, .int .u8 x262002_1, u262003] 26 (0, 0))) := ⟨by rw [← hq_]; exact (bq_ BK261)⟩; have n5_ : Aside0 (Below w.heap.size w wc) := ⟨by rw [← hq_]; exact (bh_ HB)⟩; clear HO_262003 HO_5 HO_9 BK260 BK261 HB hq_; have HO_262003 := n0_; have HO_5 := n1_; have HO_9 := n2_; have BK260 := n3_; have BK261 := n4_; have HB := n5_; clear n0_ n1_ n2_ n3_ n4_ n5_)); have hnb56 := NB260_261.out; have hnc56 := NB261_260.out; obtain ⟨hcz57_0, hcz57_1, hcz57_2, hcz57_3, hfz57_0, hfz57_1, hfz57_2, hfz57_3⟩ := c4_ BK260))
                    refine bodyPost_ret (results_ct rfl _ _ gb260 26 #[.int .i64 0, .int .i64 0, .int .u8 0, .slice none 0 0] (0, 0) _ rfl (bp_ BK260) Tryz.underlying26 rfl (by kernel_rfl)) rfl ?_
                    exact ⟨_, by first | rfl | (simp [errW_none, errW_some] <;> rfl) | (simp [*, errW_none, errW_some] <;> rfl), by first | exact Kd.R_nil _ _ _ _ _ | exact Kd.N_nil _ _ _ _ _ | exact Kd.V_nil _ _ _ _ _ | exact Kd.Q_nil _ _ _ _ _ | exact Kd.S_nil _ _ _ _ _, bh_ HB⟩
                  ·replace c37 := Bool.eq_false_iff.mpr c37
                   subst c37
                   have H1 : (some (0, 0, 0, ([] : List (S23)), 6)) = some (r1, r2, r3, r4, r5) := by rw [if_neg (show ¬ (false = true) by decide)] at H; exact H
                   clear H
                   have H := H1
                   clear H1
                   simp only [Option.some.injEq, Prod.mk.injEq] at H
                   obtain ⟨rfl, rfl, rfl, rfl, rfl⟩ := H
                   obtain ⟨Ao58, co58, eo58⟩ := Kd.R_slice HO_9.out
                   subst eo58
                   have p271 : 0 ≤ (0 : Int) := (by omega)
                   have q271 : 0 < (t267.length : Int) := of_decide_eq_true (by first | (with_reducible assumption) | assumption)
                   obtain ⟨ad271, e271, hx271_0⟩ := Kd.at_string (Kd.R_reads' HO_9.out).2.2 0 p271 q271
                   cases e271
                   have qi271 : (0 < t267.length) = True := eq_true (by omega)
                   (try rw [show ((0 : Int)).toNat = 0 from rfl] at hx271_0)
                   (try rw [Addr.add_zero'] at hx271_0)
                   replace p271 := eq_true p271
                   replace q271 := eq_true q271
                   go_wp2_with (first | ((with_reducible refine gate_callee (f := 45) rfl ?_); refine gl_ (some 51) rfl rfl Tryz.func45 (by kernel_rfl) rfl #[.string (rdOf ByteArray.empty t267 0)] rfl ?_; (with_reducible refine (salvorref16_place.calls kj13 (rdOf ByteArray.empty t267 0) t272 true _ A26.out).mono ?_); rintro e w' ⟨rfl, ⟨nd, rfl⟩⟩; refine ⟨_, rfl, ?_⟩; (try (rw [drewN_self wc]; generalize hq_ : World.drewN wc _ = wc; have n0_ : Aside0 (Kd.R k23 23 wc w.heap.size (fun _ => True) u262003 x262003_1) := ⟨by rw [← hq_]; exact (by (with_reducible repeat (first | apply Kd.R_alloc | apply Kd.R_drewN | apply Kd.R_drew)); exact HO_262003.out)⟩; have n1_ : Aside0 (Kd.R Kd.string 9 wc w.heap.size (fun k_ => some k_ ≠ (.slice (some ad271) t267.length co58 : Value).ownBlock) (.slice (some ad266) t262.length co15) t262) := ⟨by rw [← hq_]; exact (by (with_reducible repeat (first | apply Kd.R_alloc | apply Kd.R_drewN | apply Kd.R_drew)); exact HO_5.out)⟩; have n2_ : Aside0 (Kd.R Kd.string 9 wc w.heap.size (fun k_ => some k_ ≠ (.slice (some ad266) t262.length co15 : Value).ownBlock) (.slice (some ad271) t267.length co58) t267) := ⟨by rw [← hq_]; exact (by (with_reducible repeat (first | apply Kd.R_alloc | apply Kd.R_drewN | apply Kd.R_drew)); exact HO_9.out)⟩; have n3_ : Aside0 (wc.heap[gb260]? = some (.cells #[.int .i64 x261000_1, .int .i64 x261001_1, .int .u8 x261002_1, .slice none 0 0] 26 (0, 0))) := ⟨by rw [← hq_]; exact (bq_ BK260)⟩; have n4_ : Aside0 (wc.heap[gb261]? = some (.cells #[.int .i64 x262000_1, .int .i64 x262001_1, .int .u8 x262002_1, u262003] 26 (0, 0))) := ⟨by rw [← hq_]; exact (bq_ BK261)⟩; have n5_ : Aside0 (Below w.heap.size w wc) := ⟨by rw [← hq_]; exact (bh_ HB)⟩; clear HO_262003 HO_5 HO_9 BK260 BK261 HB hq_; have HO_262003 := n0_; have HO_5 := n1_; have HO_9 := n2_; have BK260 := n3_; have BK261 := n4_; have HB := n5_; clear n0_ n1_ n2_ n3_ n4_ n5_)); have p279 : 0 ≤ (1 : Int) := (by omega); have q279 : 1 < (t267.length : Int) := of_decide_eq_true (by first | (with_reducible assumption) | assumption); obtain ⟨ad279, e279, hx279_0⟩ := Kd.at_string (Kd.R_reads' HO_9.out).2.2 1 p279 q279; obtain rfl : ad271 = ad279 := (by injection e279); (try simp only [show (1 : Int).toNat = 1 from rfl, Nat.reduceMul, Nat.reduceEqDiff, Go.Addr.add, ↓reduceIte] at hx279_0); have qi279 : (1 < t267.length) = True := eq_true (by omega); (try rw [show ((1 : Int)).toNat = 1 from rfl] at hx279_0); replace p279 := eq_true p279; replace q279 := eq_true q279) | ((with_reducible refine gate_callee (f := 45) rfl ?_); refine gl_ (some 90) rfl rfl Tryz.func45 (by kernel_rfl) rfl #[.string (rdOf ByteArray.empty t267 1)] rfl ?_; (with_reducible refine (salvorref16_place.calls kj13 (rdOf ByteArray.empty t267 1) t280 true _ A29.out).mono ?_); rintro e w' ⟨rfl, ⟨nd, rfl⟩⟩; refine ⟨_, rfl, ?_⟩; (try (rw [drewN_self wc]; generalize hq_ : World.drewN wc _ = wc; have n0_ : Aside0 (Kd.R k23 23 wc w.heap.size (fun _ => True) u262003 x262003_1) := ⟨by rw [← hq_]; exact (by (with_reducible repeat (first | apply Kd.R_alloc | apply Kd.R_drewN | apply Kd.R_drew)); exact HO_262003.out)⟩; have n1_ : Aside0 (Kd.R Kd.string 9 wc w.heap.size (fun k_ => some k_ ≠ (.slice (some ad271) t267.length co58 : Value).ownBlock) (.slice (some ad266) t262.length co15) t262) := ⟨by rw [← hq_]; exact (by (with_reducible repeat (first | apply Kd.R_alloc | apply Kd.R_drewN | apply Kd.R_drew)); exact HO_5.out)⟩; have n2_ : Aside0 (Kd.R Kd.string 9 wc w.heap.size (fun k_ => some k_ ≠ (.slice (some ad266) t262.length co15 : Value).ownBlock) (.slice (some ad271) t267.length co58) t267) := ⟨by rw [← hq_]; exact (by (with_reducible repeat (first | apply Kd.R_alloc | apply Kd.R_drewN | apply Kd.R_drew)); exact HO_9.out)⟩; have n3_ : Aside0 (wc.heap[gb260]? = some (.cells #[.int .i64 x261000_1, .int .i64 x261001_1, .int .u8 x261002_1, .slice none 0 0] 26 (0, 0))) := ⟨by rw [← hq_]; exact (bq_ BK260)⟩; have n4_ : Aside0 (wc.heap[gb261]? = some (.cells #[.int .i64 x262000_1, .int .i64 x262001_1, .int .u8 x262002_1, u262003] 26 (0, 0))) := ⟨by rw [← hq_]; exact (bq_ BK261)⟩; have n5_ : Aside0 (Below w.heap.size w wc) := ⟨by rw [← hq_]; exact (bh_ HB)⟩; clear HO_262003 HO_5 HO_9 BK260 BK261 HB hq_; have HO_262003 := n0_; have HO_5 := n1_; have HO_9 := n2_; have BK260 := n3_; have BK261 := n4_; have HB := n5_; clear n0_ n1_ n2_ n3_ n4_ n5_)); have p282 : 0 ≤ (2 : Int) := (by omega); have q282 : 2 < (t267.length : Int) := of_decide_eq_true (by first | (with_reducible assumption) | assumption); obtain ⟨ad282, e282, hx282_0⟩ := Kd.at_string (Kd.R_reads' HO_9.out).2.2 2 p282 q282; obtain rfl : ad271 = ad282 := (by injection e282); (try simp only [show (2 : Int).toNat = 2 from rfl, Nat.reduceMul, Nat.reduceEqDiff, Go.Addr.add, ↓reduceIte] at hx282_0); have qi282 : (2 < t267.length) = True := eq_true (by omega); (try rw [show ((2 : Int)).toNat = 2 from rfl] at hx282_0); replace p282 := eq_true p282; replace q282 := eq_true q282; have p283 : 0 ≤ (2 : Int) := (by omega); have q283 : 2 < (t267.length : Int) := of_decide_eq_true (by first | (with_reducible assumption) | assumption); obtain ⟨ad283, e283, hx283_0⟩ := Kd.at_string (Kd.R_reads' HO_9.out).2.2 2 p283 q283; obtain rfl : ad271 = ad283 := (by injection e283); (try simp only [show (2 : Int).toNat = 2 from rfl, Nat.reduceMul, Nat.reduceEqDiff, Go.Addr.add, ↓reduceIte] at hx283_0); have qi283 : (2 < t267.length) = True := eq_true (by omega); (try rw [show ((2 : Int)).toNat = 2 from rfl] at hx283_0); replace p283 := eq_true p283; replace q283 := eq_true q283; have p35 : 0 ≤ (0 : Int) := (by omega); have q35 : 0 < (rdOf ByteArray.empty t267 2).size := (by have : (0 : Int) < ((rdOf ByteArray.empty t267 2).size : Int) := of_decide_eq_true (by first | (with_reducible assumption) | assumption); omega); have hx35 : ∀ h : 0 < (rdOf ByteArray.empty t267 2).size, (((rdOf ByteArray.empty t267 2)[0]'h).toNat : Int) = bt (rdOf ByteArray.empty t267 2) 0 := bt_at (rdOf ByteArray.empty t267 2) 0; clear p35; have qi35 : (0 < ((rdOf ByteArray.empty t267 2).size : Int)) = True := eq_true (of_decide_eq_true (by first | (with_reducible assumption) | assumption)); replace q35 := eq_true q35) | (go_at_call 40; (with_reducible refine (salvorref16_status.calls (bt (rdOf ByteArray.empty t267 2) 0) false _ A36.out).mono ?_); rintro e w' ⟨rfl, ⟨nd, rfl⟩⟩; (try (rw [drewN_self wc]; generalize hq_ : World.drewN wc _ = wc; have n0_ : Aside0 (Kd.R k23 23 wc w.heap.size (fun _ => True) u262003 x262003_1) := ⟨by rw [← hq_]; exact (by (with_reducible repeat (first | apply Kd.R_alloc | apply Kd.R_drewN | apply Kd.R_drew)); exact HO_262003.out)⟩; have n1_ : Aside0 (Kd.R Kd.string 9 wc w.heap.size (fun k_ => some k_ ≠ (.slice (some ad271) t267.length co58 : Value).ownBlock) (.slice (some ad266) t262.length co15) t262) := ⟨by rw [← hq_]; exact (by (with_reducible repeat (first | apply Kd.R_alloc | apply Kd.R_drewN | apply Kd.R_drew)); exact HO_5.out)⟩; have n2_ : Aside0 (Kd.R Kd.string 9 wc w.heap.size (fun k_ => some k_ ≠ (.slice (some ad266) t262.length co15 : Value).ownBlock) (.slice (some ad271) t267.length co58) t267) := ⟨by rw [← hq_]; exact (by (with_reducible repeat (first | apply Kd.R_alloc | apply Kd.R_drewN | apply Kd.R_drew)); exact HO_9.out)⟩; have n3_ : Aside0 (wc.heap[gb260]? = some (.cells #[.int .i64 x261000_1, .int .i64 x261001_1, .int .u8 x261002_1, .slice none 0 0] 26 (0, 0))) := ⟨by rw [← hq_]; exact (bq_ BK260)⟩; have n4_ : Aside0 (wc.heap[gb261]? = some (.cells #[.int .i64 x262000_1, .int .i64 x262001_1, .int .u8 x262002_1, u262003] 26 (0, 0))) := ⟨by rw [← hq_]; exact (bq_ BK261)⟩; have n5_ : Aside0 (Below w.heap.size w wc) := ⟨by rw [← hq_]; exact (bh_ HB)⟩; clear HO_262003 HO_5 HO_9 BK260 BK261 HB hq_; have HO_262003 := n0_; have HO_5 := n1_; have HO_9 := n2_; have BK260 := n3_; have BK261 := n4_; have HB := n5_; clear n0_ n1_ n2_ n3_ n4_ n5_)); have hnb59 := NB260_261.out; have hnc59 := NB261_260.out; obtain ⟨hcz60_0, hcz60_1, hcz60_2, hcz60_3, hfz60_0, hfz60_1, hfz60_2, hfz60_3⟩ := c4_ BK260))
                   refine bodyPost_ret (results_ct rfl _ _ gb260 26 #[.int .i64 0, .int .i64 0, .int .u8 0, .slice none 0 0] (0, 0) _ rfl (bp_ BK260) Tryz.underlying26 rfl (by kernel_rfl)) rfl ?_
                   exact ⟨_, by first | rfl | (simp [errW_none, errW_some] <;> rfl) | (simp [*, errW_none, errW_some] <;> rfl), by first | exact Kd.R_nil _ _ _ _ _ | exact Kd.N_nil _ _ _ _ _ | exact Kd.V_nil _ _ _ _ _ | exact Kd.Q_nil _ _ _ _ _ | exact Kd.S_nil _ _ _ _ _, bh_ HB⟩
                 ·rw [if_neg c34] at H
                  exact absurd H (by simp)
                ·rw [if_neg c33] at H
                 have c33b0 : (((rdOf ByteArray.empty t267 2).size : Int) == 1) = false := beq_eq_false_iff_ne.mpr c33
                 have c33b1 : (((rdOf ByteArray.empty t267 2).size : Int) != 1) = true := bne_iff_ne.mpr c33
                 simp only [Option.some.injEq, Prod.mk.injEq] at H
                 obtain ⟨rfl, rfl, rfl, rfl, rfl⟩ := H
                 obtain ⟨Ao61, co61, eo61⟩ := Kd.R_slice HO_9.out
                 subst eo61
                 have p271 : 0 ≤ (0 : Int) := (by omega)
                 have q271 : 0 < (t267.length : Int) := of_decide_eq_true (by first | (with_reducible assumption) | assumption)
                 obtain ⟨ad271, e271, hx271_0⟩ := Kd.at_string (Kd.R_reads' HO_9.out).2.2 0 p271 q271
                 cases e271
                 have qi271 : (0 < t267.length) = True := eq_true (by omega)
                 (try rw [show ((0 : Int)).toNat = 0 from rfl] at hx271_0)
                 (try rw [Addr.add_zero'] at hx271_0)
                 replace p271 := eq_true p271
                 replace q271 := eq_true q271
                 go_wp2_with (first | ((with_reducible refine gate_callee (f := 45) rfl ?_); refine gl_ (some 51) rfl rfl Tryz.func45 (by kernel_rfl) rfl #[.string (rdOf ByteArray.empty t267 0)] rfl ?_; (with_reducible refine (salvorref16_place.calls kj13 (rdOf ByteArray.empty t267 0) t272 true _ A26.out).mono ?_); rintro e w' ⟨rfl, ⟨nd, rfl⟩⟩; refine ⟨_, rfl, ?_⟩; (try (rw [drewN_self wc]; generalize hq_ : World.drewN wc _ = wc; have n0_ : Aside0 (Kd.R k23 23 wc w.heap.size (fun _ => True) u262003 x262003_1) := ⟨by rw [← hq_]; exact (by (with_reducible repeat (first | apply Kd.R_alloc | apply Kd.R_drewN | apply Kd.R_drew)); exact HO_262003.out)⟩; have n1_ : Aside0 (Kd.R Kd.string 9 wc w.heap.size (fun k_ => some k_ ≠ (.slice (some ad271) t267.length co61 : Value).ownBlock) (.slice (some ad266) t262.length co15) t262) := ⟨by rw [← hq_]; exact (by (with_reducible repeat (first | apply Kd.R_alloc | apply Kd.R_drewN | apply Kd.R_drew)); exact HO_5.out)⟩; have n2_ : Aside0 (Kd.R Kd.string 9 wc w.heap.size (fun k_ => some k_ ≠ (.slice (some ad266) t262.length co15 : Value).ownBlock) (.slice (some ad271) t267.length co61) t267) := ⟨by rw [← hq_]; exact (by (with_reducible repeat (first | apply Kd.R_alloc | apply Kd.R_drewN | apply Kd.R_drew)); exact HO_9.out)⟩; have n3_ : Aside0 (wc.heap[gb260]? = some (.cells #[.int .i64 x261000_1, .int .i64 x261001_1, .int .u8 x261002_1, .slice none 0 0] 26 (0, 0))) := ⟨by rw [← hq_]; exact (bq_ BK260)⟩; have n4_ : Aside0 (wc.heap[gb261]? = some (.cells #[.int .i64 x262000_1, .int .i64 x262001_1, .int .u8 x262002_1, u262003] 26 (0, 0))) := ⟨by rw [← hq_]; exact (bq_ BK261)⟩; have n5_ : Aside0 (Below w.heap.size w wc) := ⟨by rw [← hq_]; exact (bh_ HB)⟩; clear HO_262003 HO_5 HO_9 BK260 BK261 HB hq_; have HO_262003 := n0_; have HO_5 := n1_; have HO_9 := n2_; have BK260 := n3_; have BK261 := n4_; have HB := n5_; clear n0_ n1_ n2_ n3_ n4_ n5_)); have p279 : 0 ≤ (1 : Int) := (by omega); have q279 : 1 < (t267.length : Int) := of_decide_eq_true (by first | (with_reducible assumption) | assumption); obtain ⟨ad279, e279, hx279_0⟩ := Kd.at_string (Kd.R_reads' HO_9.out).2.2 1 p279 q279; obtain rfl : ad271 = ad279 := (by injection e279); (try simp only [show (1 : Int).toNat = 1 from rfl, Nat.reduceMul, Nat.reduceEqDiff, Go.Addr.add, ↓reduceIte] at hx279_0); have qi279 : (1 < t267.length) = True := eq_true (by omega); (try rw [show ((1 : Int)).toNat = 1 from rfl] at hx279_0); replace p279 := eq_true p279; replace q279 := eq_true q279) | ((with_reducible refine gate_callee (f := 45) rfl ?_); refine gl_ (some 90) rfl rfl Tryz.func45 (by kernel_rfl) rfl #[.string (rdOf ByteArray.empty t267 1)] rfl ?_; (with_reducible refine (salvorref16_place.calls kj13 (rdOf ByteArray.empty t267 1) t280 true _ A29.out).mono ?_); rintro e w' ⟨rfl, ⟨nd, rfl⟩⟩; refine ⟨_, rfl, ?_⟩; (try (rw [drewN_self wc]; generalize hq_ : World.drewN wc _ = wc; have n0_ : Aside0 (Kd.R k23 23 wc w.heap.size (fun _ => True) u262003 x262003_1) := ⟨by rw [← hq_]; exact (by (with_reducible repeat (first | apply Kd.R_alloc | apply Kd.R_drewN | apply Kd.R_drew)); exact HO_262003.out)⟩; have n1_ : Aside0 (Kd.R Kd.string 9 wc w.heap.size (fun k_ => some k_ ≠ (.slice (some ad271) t267.length co61 : Value).ownBlock) (.slice (some ad266) t262.length co15) t262) := ⟨by rw [← hq_]; exact (by (with_reducible repeat (first | apply Kd.R_alloc | apply Kd.R_drewN | apply Kd.R_drew)); exact HO_5.out)⟩; have n2_ : Aside0 (Kd.R Kd.string 9 wc w.heap.size (fun k_ => some k_ ≠ (.slice (some ad266) t262.length co15 : Value).ownBlock) (.slice (some ad271) t267.length co61) t267) := ⟨by rw [← hq_]; exact (by (with_reducible repeat (first | apply Kd.R_alloc | apply Kd.R_drewN | apply Kd.R_drew)); exact HO_9.out)⟩; have n3_ : Aside0 (wc.heap[gb260]? = some (.cells #[.int .i64 x261000_1, .int .i64 x261001_1, .int .u8 x261002_1, .slice none 0 0] 26 (0, 0))) := ⟨by rw [← hq_]; exact (bq_ BK260)⟩; have n4_ : Aside0 (wc.heap[gb261]? = some (.cells #[.int .i64 x262000_1, .int .i64 x262001_1, .int .u8 x262002_1, u262003] 26 (0, 0))) := ⟨by rw [← hq_]; exact (bq_ BK261)⟩; have n5_ : Aside0 (Below w.heap.size w wc) := ⟨by rw [← hq_]; exact (bh_ HB)⟩; clear HO_262003 HO_5 HO_9 BK260 BK261 HB hq_; have HO_262003 := n0_; have HO_5 := n1_; have HO_9 := n2_; have BK260 := n3_; have BK261 := n4_; have HB := n5_; clear n0_ n1_ n2_ n3_ n4_ n5_)); have p282 : 0 ≤ (2 : Int) := (by omega); have q282 : 2 < (t267.length : Int) := of_decide_eq_true (by first | (with_reducible assumption) | assumption); obtain ⟨ad282, e282, hx282_0⟩ := Kd.at_string (Kd.R_reads' HO_9.out).2.2 2 p282 q282; obtain rfl : ad271 = ad282 := (by injection e282); (try simp only [show (2 : Int).toNat = 2 from rfl, Nat.reduceMul, Nat.reduceEqDiff, Go.Addr.add, ↓reduceIte] at hx282_0); have qi282 : (2 < t267.length) = True := eq_true (by omega); (try rw [show ((2 : Int)).toNat = 2 from rfl] at hx282_0); replace p282 := eq_true p282; replace q282 := eq_true q282; have hnb62 := NB260_261.out; have hnc62 := NB261_260.out; obtain ⟨hcz63_0, hcz63_1, hcz63_2, hcz63_3, hfz63_0, hfz63_1, hfz63_2, hfz63_3⟩ := c4_ BK260))
                 refine bodyPost_ret (results_ct rfl _ _ gb260 26 #[.int .i64 0, .int .i64 0, .int .u8 0, .slice none 0 0] (0, 0) _ rfl (bp_ BK260) Tryz.underlying26 rfl (by kernel_rfl)) rfl ?_
                 exact ⟨_, by first | rfl | (simp [errW_none, errW_some] <;> rfl) | (simp [*, errW_none, errW_some] <;> rfl), by first | exact Kd.R_nil _ _ _ _ _ | exact Kd.N_nil _ _ _ _ _ | exact Kd.V_nil _ _ _ _ _ | exact Kd.Q_nil _ _ _ _ _ | exact Kd.S_nil _ _ _ _ _, bh_ HB⟩
               ·rw [if_neg c32] at H
                exact absurd H (by simp)
              ·replace c31 := Bool.eq_false_iff.mpr c31
               subst c31
               have H1 : (some (0, 0, 0, ([] : List (S23)), 6)) = some (r1, r2, r3, r4, r5) := by rw [if_neg (show ¬ (false = true) by decide)] at H; exact H
               clear H
               have H := H1
               clear H1
               simp only [Option.some.injEq, Prod.mk.injEq] at H
               obtain ⟨rfl, rfl, rfl, rfl, rfl⟩ := H
               obtain ⟨Ao64, co64, eo64⟩ := Kd.R_slice HO_9.out
               subst eo64
               have p271 : 0 ≤ (0 : Int) := (by omega)
               have q271 : 0 < (t267.length : Int) := of_decide_eq_true (by first | (with_reducible assumption) | assumption)
               obtain ⟨ad271, e271, hx271_0⟩ := Kd.at_string (Kd.R_reads' HO_9.out).2.2 0 p271 q271
               cases e271
               have qi271 : (0 < t267.length) = True := eq_true (by omega)
               (try rw [show ((0 : Int)).toNat = 0 from rfl] at hx271_0)
               (try rw [Addr.add_zero'] at hx271_0)
               replace p271 := eq_true p271
               replace q271 := eq_true q271
               go_wp2_with (first | ((with_reducible refine gate_callee (f := 45) rfl ?_); refine gl_ (some 51) rfl rfl Tryz.func45 (by kernel_rfl) rfl #[.string (rdOf ByteArray.empty t267 0)] rfl ?_; (with_reducible refine (salvorref16_place.calls kj13 (rdOf ByteArray.empty t267 0) t272 true _ A26.out).mono ?_); rintro e w' ⟨rfl, ⟨nd, rfl⟩⟩; refine ⟨_, rfl, ?_⟩; (try (rw [drewN_self wc]; generalize hq_ : World.drewN wc _ = wc; have n0_ : Aside0 (Kd.R k23 23 wc w.heap.size (fun _ => True) u262003 x262003_1) := ⟨by rw [← hq_]; exact (by (with_reducible repeat (first | apply Kd.R_alloc | apply Kd.R_drewN | apply Kd.R_drew)); exact HO_262003.out)⟩; have n1_ : Aside0 (Kd.R Kd.string 9 wc w.heap.size (fun k_ => some k_ ≠ (.slice (some ad271) t267.length co64 : Value).ownBlock) (.slice (some ad266) t262.length co15) t262) := ⟨by rw [← hq_]; exact (by (with_reducible repeat (first | apply Kd.R_alloc | apply Kd.R_drewN | apply Kd.R_drew)); exact HO_5.out)⟩; have n2_ : Aside0 (Kd.R Kd.string 9 wc w.heap.size (fun k_ => some k_ ≠ (.slice (some ad266) t262.length co15 : Value).ownBlock) (.slice (some ad271) t267.length co64) t267) := ⟨by rw [← hq_]; exact (by (with_reducible repeat (first | apply Kd.R_alloc | apply Kd.R_drewN | apply Kd.R_drew)); exact HO_9.out)⟩; have n3_ : Aside0 (wc.heap[gb260]? = some (.cells #[.int .i64 x261000_1, .int .i64 x261001_1, .int .u8 x261002_1, .slice none 0 0] 26 (0, 0))) := ⟨by rw [← hq_]; exact (bq_ BK260)⟩; have n4_ : Aside0 (wc.heap[gb261]? = some (.cells #[.int .i64 x262000_1, .int .i64 x262001_1, .int .u8 x262002_1, u262003] 26 (0, 0))) := ⟨by rw [← hq_]; exact (bq_ BK261)⟩; have n5_ : Aside0 (Below w.heap.size w wc) := ⟨by rw [← hq_]; exact (bh_ HB)⟩; clear HO_262003 HO_5 HO_9 BK260 BK261 HB hq_; have HO_262003 := n0_; have HO_5 := n1_; have HO_9 := n2_; have BK260 := n3_; have BK261 := n4_; have HB := n5_; clear n0_ n1_ n2_ n3_ n4_ n5_)); have p279 : 0 ≤ (1 : Int) := (by omega); have q279 : 1 < (t267.length : Int) := of_decide_eq_true (by first | (with_reducible assumption) | assumption); obtain ⟨ad279, e279, hx279_0⟩ := Kd.at_string (Kd.R_reads' HO_9.out).2.2 1 p279 q279; obtain rfl : ad271 = ad279 := (by injection e279); (try simp only [show (1 : Int).toNat = 1 from rfl, Nat.reduceMul, Nat.reduceEqDiff, Go.Addr.add, ↓reduceIte] at hx279_0); have qi279 : (1 < t267.length) = True := eq_true (by omega); (try rw [show ((1 : Int)).toNat = 1 from rfl] at hx279_0); replace p279 := eq_true p279; replace q279 := eq_true q279) | ((with_reducible refine gate_callee (f := 45) rfl ?_); refine gl_ (some 90) rfl rfl Tryz.func45 (by kernel_rfl) rfl #[.string (rdOf ByteArray.empty t267 1)] rfl ?_; (with_reducible refine (salvorref16_place.calls kj13 (rdOf ByteArray.empty t267 1) t280 false _ A29.out).mono ?_); rintro e w' ⟨rfl, ⟨nd, rfl⟩⟩; refine ⟨_, rfl, ?_⟩; (try (rw [drewN_self wc]; generalize hq_ : World.drewN wc _ = wc; have n0_ : Aside0 (Kd.R k23 23 wc w.heap.size (fun _ => True) u262003 x262003_1) := ⟨by rw [← hq_]; exact (by (with_reducible repeat (first | apply Kd.R_alloc | apply Kd.R_drewN | apply Kd.R_drew)); exact HO_262003.out)⟩; have n1_ : Aside0 (Kd.R Kd.string 9 wc w.heap.size (fun k_ => some k_ ≠ (.slice (some ad271) t267.length co64 : Value).ownBlock) (.slice (some ad266) t262.length co15) t262) := ⟨by rw [← hq_]; exact (by (with_reducible repeat (first | apply Kd.R_alloc | apply Kd.R_drewN | apply Kd.R_drew)); exact HO_5.out)⟩; have n2_ : Aside0 (Kd.R Kd.string 9 wc w.heap.size (fun k_ => some k_ ≠ (.slice (some ad266) t262.length co15 : Value).ownBlock) (.slice (some ad271) t267.length co64) t267) := ⟨by rw [← hq_]; exact (by (with_reducible repeat (first | apply Kd.R_alloc | apply Kd.R_drewN | apply Kd.R_drew)); exact HO_9.out)⟩; have n3_ : Aside0 (wc.heap[gb260]? = some (.cells #[.int .i64 x261000_1, .int .i64 x261001_1, .int .u8 x261002_1, .slice none 0 0] 26 (0, 0))) := ⟨by rw [← hq_]; exact (bq_ BK260)⟩; have n4_ : Aside0 (wc.heap[gb261]? = some (.cells #[.int .i64 x262000_1, .int .i64 x262001_1, .int .u8 x262002_1, u262003] 26 (0, 0))) := ⟨by rw [← hq_]; exact (bq_ BK261)⟩; have n5_ : Aside0 (Below w.heap.size w wc) := ⟨by rw [← hq_]; exact (bh_ HB)⟩; clear HO_262003 HO_5 HO_9 BK260 BK261 HB hq_; have HO_262003 := n0_; have HO_5 := n1_; have HO_9 := n2_; have BK260 := n3_; have BK261 := n4_; have HB := n5_; clear n0_ n1_ n2_ n3_ n4_ n5_)); have hnb65 := NB260_261.out; have hnc65 := NB261_260.out; obtain ⟨hcz66_0, hcz66_1, hcz66_2, hcz66_3, hfz66_0, hfz66_1, hfz66_2, hfz66_3⟩ := c4_ BK260))
               refine bodyPost_ret (results_ct rfl _ _ gb260 26 #[.int .i64 0, .int .i64 0, .int .u8 0, .slice none 0 0] (0, 0) _ rfl (bp_ BK260) Tryz.underlying26 rfl (by kernel_rfl)) rfl ?_
               exact ⟨_, by first | rfl | (simp [errW_none, errW_some] <;> rfl) | (simp [*, errW_none, errW_some] <;> rfl), by first | exact Kd.R_nil _ _ _ _ _ | exact Kd.N_nil _ _ _ _ _ | exact Kd.V_nil _ _ _ _ _ | exact Kd.Q_nil _ _ _ _ _ | exact Kd.S_nil _ _ _ _ _, bh_ HB⟩
             ·replace c30 := Bool.eq_false_iff.mpr c30
              subst c30
              have H1 : (some (0, 0, 0, ([] : List (S23)), 6)) = some (r1, r2, r3, r4, r5) := by rw [if_neg (show ¬ (false = true) by decide)] at H; exact H
              clear H
              have H := H1
              clear H1
              simp only [Option.some.injEq, Prod.mk.injEq] at H
              obtain ⟨rfl, rfl, rfl, rfl, rfl⟩ := H
              obtain ⟨Ao67, co67, eo67⟩ := Kd.R_slice HO_9.out
              subst eo67
              have p271 : 0 ≤ (0 : Int) := (by omega)
              have q271 : 0 < (t267.length : Int) := of_decide_eq_true (by first | (with_reducible assumption) | assumption)
              obtain ⟨ad271, e271, hx271_0⟩ := Kd.at_string (Kd.R_reads' HO_9.out).2.2 0 p271 q271
              cases e271
              have qi271 : (0 < t267.length) = True := eq_true (by omega)
              (try rw [show ((0 : Int)).toNat = 0 from rfl] at hx271_0)
              (try rw [Addr.add_zero'] at hx271_0)
              replace p271 := eq_true p271
              replace q271 := eq_true q271
              go_wp2_with (first | ((with_reducible refine gate_callee (f := 45) rfl ?_); refine gl_ (some 51) rfl rfl Tryz.func45 (by kernel_rfl) rfl #[.string (rdOf ByteArray.empty t267 0)] rfl ?_; (with_reducible refine (salvorref16_place.calls kj13 (rdOf ByteArray.empty t267 0) t272 false _ A26.out).mono ?_); rintro e w' ⟨rfl, ⟨nd, rfl⟩⟩; refine ⟨_, rfl, ?_⟩; (try (rw [drewN_self wc]; generalize hq_ : World.drewN wc _ = wc; have n0_ : Aside0 (Kd.R k23 23 wc w.heap.size (fun _ => True) u262003 x262003_1) := ⟨by rw [← hq_]; exact (by (with_reducible repeat (first | apply Kd.R_alloc | apply Kd.R_drewN | apply Kd.R_drew)); exact HO_262003.out)⟩; have n1_ : Aside0 (Kd.R Kd.string 9 wc w.heap.size (fun k_ => some k_ ≠ (.slice (some ad271) t267.length co67 : Value).ownBlock) (.slice (some ad266) t262.length co15) t262) := ⟨by rw [← hq_]; exact (by (with_reducible repeat (first | apply Kd.R_alloc | apply Kd.R_drewN | apply Kd.R_drew)); exact HO_5.out)⟩; have n2_ : Aside0 (Kd.R Kd.string 9 wc w.heap.size (fun k_ => some k_ ≠ (.slice (some ad266) t262.length co15 : Value).ownBlock) (.slice (some ad271) t267.length co67) t267) := ⟨by rw [← hq_]; exact (by (with_reducible repeat (first | apply Kd.R_alloc | apply Kd.R_drewN | apply Kd.R_drew)); exact HO_9.out)⟩; have n3_ : Aside0 (wc.heap[gb260]? = some (.cells #[.int .i64 x261000_1, .int .i64 x261001_1, .int .u8 x261002_1, .slice none 0 0] 26 (0, 0))) := ⟨by rw [← hq_]; exact (bq_ BK260)⟩; have n4_ : Aside0 (wc.heap[gb261]? = some (.cells #[.int .i64 x262000_1, .int .i64 x262001_1, .int .u8 x262002_1, u262003] 26 (0, 0))) := ⟨by rw [← hq_]; exact (bq_ BK261)⟩; have n5_ : Aside0 (Below w.heap.size w wc) := ⟨by rw [← hq_]; exact (bh_ HB)⟩; clear HO_262003 HO_5 HO_9 BK260 BK261 HB hq_; have HO_262003 := n0_; have HO_5 := n1_; have HO_9 := n2_; have BK260 := n3_; have BK261 := n4_; have HB := n5_; clear n0_ n1_ n2_ n3_ n4_ n5_)); have p279 : 0 ≤ (1 : Int) := (by omega); have q279 : 1 < (t267.length : Int) := of_decide_eq_true (by first | (with_reducible assumption) | assumption); obtain ⟨ad279, e279, hx279_0⟩ := Kd.at_string (Kd.R_reads' HO_9.out).2.2 1 p279 q279; obtain rfl : ad271 = ad279 := (by injection e279); (try simp only [show (1 : Int).toNat = 1 from rfl, Nat.reduceMul, Nat.reduceEqDiff, Go.Addr.add, ↓reduceIte] at hx279_0); have qi279 : (1 < t267.length) = True := eq_true (by omega); (try rw [show ((1 : Int)).toNat = 1 from rfl] at hx279_0); replace p279 := eq_true p279; replace q279 := eq_true q279) | ((with_reducible refine gate_callee (f := 45) rfl ?_); refine gl_ (some 90) rfl rfl Tryz.func45 (by kernel_rfl) rfl #[.string (rdOf ByteArray.empty t267 1)] rfl ?_; (with_reducible refine (salvorref16_place.calls kj13 (rdOf ByteArray.empty t267 1) t280 t281 _ A29.out).mono ?_); rintro e w' ⟨rfl, ⟨nd, rfl⟩⟩; refine ⟨_, rfl, ?_⟩; (try (rw [drewN_self wc]; generalize hq_ : World.drewN wc _ = wc; have n0_ : Aside0 (Kd.R k23 23 wc w.heap.size (fun _ => True) u262003 x262003_1) := ⟨by rw [← hq_]; exact (by (with_reducible repeat (first | apply Kd.R_alloc | apply Kd.R_drewN | apply Kd.R_drew)); exact HO_262003.out)⟩; have n1_ : Aside0 (Kd.R Kd.string 9 wc w.heap.size (fun k_ => some k_ ≠ (.slice (some ad271) t267.length co67 : Value).ownBlock) (.slice (some ad266) t262.length co15) t262) := ⟨by rw [← hq_]; exact (by (with_reducible repeat (first | apply Kd.R_alloc | apply Kd.R_drewN | apply Kd.R_drew)); exact HO_5.out)⟩; have n2_ : Aside0 (Kd.R Kd.string 9 wc w.heap.size (fun k_ => some k_ ≠ (.slice (some ad266) t262.length co15 : Value).ownBlock) (.slice (some ad271) t267.length co67) t267) := ⟨by rw [← hq_]; exact (by (with_reducible repeat (first | apply Kd.R_alloc | apply Kd.R_drewN | apply Kd.R_drew)); exact HO_9.out)⟩; have n3_ : Aside0 (wc.heap[gb260]? = some (.cells #[.int .i64 x261000_1, .int .i64 x261001_1, .int .u8 x261002_1, .slice none 0 0] 26 (0, 0))) := ⟨by rw [← hq_]; exact (bq_ BK260)⟩; have n4_ : Aside0 (wc.heap[gb261]? = some (.cells #[.int .i64 x262000_1, .int .i64 x262001_1, .int .u8 x262002_1, u262003] 26 (0, 0))) := ⟨by rw [← hq_]; exact (bq_ BK261)⟩; have n5_ : Aside0 (Below w.heap.size w wc) := ⟨by rw [← hq_]; exact (bh_ HB)⟩; clear HO_262003 HO_5 HO_9 BK260 BK261 HB hq_; have HO_262003 := n0_; have HO_5 := n1_; have HO_9 := n2_; have BK260 := n3_; have BK261 := n4_; have HB := n5_; clear n0_ n1_ n2_ n3_ n4_ n5_)); have hnb68 := NB260_261.out; have hnc68 := NB261_260.out; obtain ⟨hcz69_0, hcz69_1, hcz69_2, hcz69_3, hfz69_0, hfz69_1, hfz69_2, hfz69_3⟩ := c4_ BK260))
              refine bodyPost_ret (results_ct rfl _ _ gb260 26 #[.int .i64 0, .int .i64 0, .int .u8 0, .slice none 0 0] (0, 0) _ rfl (bp_ BK260) Tryz.underlying26 rfl (by kernel_rfl)) rfl ?_
              exact ⟨_, by first | rfl | (simp [errW_none, errW_some] <;> rfl) | (simp [*, errW_none, errW_some] <;> rfl), by first | exact Kd.R_nil _ _ _ _ _ | exact Kd.N_nil _ _ _ _ _ | exact Kd.V_nil _ _ _ _ _ | exact Kd.Q_nil _ _ _ _ _ | exact Kd.S_nil _ _ _ _ _, bh_ HB⟩
            ·rw [if_neg c28] at H
             exact absurd H (by simp)
           ·replace c27 := Bool.eq_false_iff.mpr c27
            subst c27
            have H1 : (if 2 < (t267.length : Int) then ((salvorref1_GetDec.f kj13 (rdOf ByteArray.empty t267 2)).bind fun bt275 => (if t273 = true then (if bt275.2 = true then (if 1 < (t267.length : Int) then (if ((rdOf ByteArray.empty t267 1).size : Int) = 1 then (if 0 < ((rdOf ByteArray.empty t267 1).size : Int) then (salvorref16_Parse.l0 kj13 t262 true x7_1 (wrap64 (x8_1 + 1)) t272 bt275.1 (bt (rdOf ByteArray.empty t267 1) 0) x262003_1) else (none)) else (some (0, 0, 0, ([] : List (S23)), 6))) else (none)) else (some (0, 0, 0, ([] : List (S23)), 6))) else (some (0, 0, 0, ([] : List (S23)), 6)))) else (none)) = some (r1, r2, r3, r4, r5) := by rw [if_neg (show ¬ (false = true) by decide)] at H; exact H
            clear H
            have H := H1
            clear H1
            by_cases c70 : 2 < (t267.length : Int)
            ·rw [if_pos c70] at H
             have c70b0 : decide (2 < (t267.length : Int)) = true := decide_eq_true c70
             have c70b1 : decide (2 < t267.length) = true := decide_eq_true (by omega)
             clear c70
             replace H := Option.bind_eq_some_iff.mp H
             obtain ⟨⟨t275, t276⟩, A710, H⟩ := H
             replace H : (if t273 = true then (if t276 = true then (if 1 < (t267.length : Int) then (if ((rdOf ByteArray.empty t267 1).size : Int) = 1 then (if 0 < ((rdOf ByteArray.empty t267 1).size : Int) then (salvorref16_Parse.l0 kj13 t262 true x7_1 (wrap64 (x8_1 + 1)) t272 t275 (bt (rdOf ByteArray.empty t267 1) 0) x262003_1) else (none)) else (some (0, 0, 0, ([] : List (S23)), 6))) else (none)) else (some (0, 0, 0, ([] : List (S23)), 6))) else (some (0, 0, 0, ([] : List (S23)), 6))) = some (r1, r2, r3, r4, r5) := H
             have A71 := Aside0.mk A710
             clear A710
             by_cases c72 : t273 = true
             ·subst c72
              have H1 : (if t276 = true then (if 1 < (t267.length : Int) then (if ((rdOf ByteArray.empty t267 1).size : Int) = 1 then (if 0 < ((rdOf ByteArray.empty t267 1).size : Int) then (salvorref16_Parse.l0 kj13 t262 true x7_1 (wrap64 (x8_1 + 1)) t272 t275 (bt (rdOf ByteArray.empty t267 1) 0) x262003_1) else (none)) else (some (0, 0, 0, ([] : List (S23)), 6))) else (none)) else (some (0, 0, 0, ([] : List (S23)), 6))) = some (r1, r2, r3, r4, r5) := by rw [if_pos rfl] at H; exact H
              clear H
              have H := H1
              clear H1
              by_cases c73 : t276 = true
              ·subst c73
               have H1 : (if 1 < (t267.length : Int) then (if ((rdOf ByteArray.empty t267 1).size : Int) = 1 then (if 0 < ((rdOf ByteArray.empty t267 1).size : Int) then (salvorref16_Parse.l0 kj13 t262 true x7_1 (wrap64 (x8_1 + 1)) t272 t275 (bt (rdOf ByteArray.empty t267 1) 0) x262003_1) else (none)) else (some (0, 0, 0, ([] : List (S23)), 6))) else (none)) = some (r1, r2, r3, r4, r5) := by rw [if_pos rfl] at H; exact H
               clear H
               have H := H1
               clear H1
               by_cases c74 : 1 < (t267.length : Int)
               ·rw [if_pos c74] at H
                have c74b0 : decide (1 < (t267.length : Int)) = true := decide_eq_true c74
                have c74b1 : decide (1 < t267.length) = true := decide_eq_true (by omega)
                clear c74
                by_cases c75 : ((rdOf ByteArray.empty t267 1).size : Int) = 1
                ·rw [if_pos c75] at H
                 have c75b0 : (((rdOf ByteArray.empty t267 1).size : Int) == 1) = true := beq_iff_eq.mpr c75
                 have c75b1 : (((rdOf ByteArray.empty t267 1).size : Int) != 1) = false := bne_eq_false_iff_eq.mpr c75
                 clear c75
                 by_cases c76 : 0 < ((rdOf ByteArray.empty t267 1).size : Int)
                 ·rw [if_pos c76] at H
                  have c76b0 : decide (0 < ((rdOf ByteArray.empty t267 1).size : Int)) = true := decide_eq_true c76
                  have c76b1 : decide (0 < (rdOf ByteArray.empty t267 1).size) = true := decide_eq_true (by omega)
                  clear c76
                  have H' := Aside0.mk H
                  clear H
                  obtain ⟨Ao78, co78, eo78⟩ := Kd.R_slice HO_9.out
                  subst eo78
                  have p271 : 0 ≤ (0 : Int) := (by omega)
                  have q271 : 0 < (t267.length : Int) := of_decide_eq_true (by first | (with_reducible assumption) | assumption)
                  obtain ⟨ad271, e271, hx271_0⟩ := Kd.at_string (Kd.R_reads' HO_9.out).2.2 0 p271 q271
                  cases e271
                  have qi271 : (0 < t267.length) = True := eq_true (by omega)
                  (try rw [show ((0 : Int)).toNat = 0 from rfl] at hx271_0)
                  (try rw [Addr.add_zero'] at hx271_0)
                  replace p271 := eq_true p271
                  replace q271 := eq_true q271
                  try go_wp2_with (first | ((with_reducible refine gate_callee (f := 45) rfl ?_); refine gl_ (some 51) rfl rfl Tryz.func45 (by kernel_rfl) rfl #[.string (rdOf ByteArray.empty t267 0)] rfl ?_; (with_reducible refine (salvorref16_place.calls kj13 (rdOf ByteArray.empty t267 0) t272 true _ A26.out).mono ?_); rintro e w' ⟨rfl, ⟨nd, rfl⟩⟩; refine ⟨_, rfl, ?_⟩; (try (rw [drewN_self wc]; generalize hq_ : World.drewN wc _ = wc; have n0_ : Aside0 (Kd.R k23 23 wc w.heap.size (fun _ => True) u262003 x262003_1) := ⟨by rw [← hq_]; exact (by (with_reducible repeat (first | apply Kd.R_alloc | apply Kd.R_drewN | apply Kd.R_drew)); exact HO_262003.out)⟩; have n1_ : Aside0 (Kd.R Kd.string 9 wc w.heap.size (fun k_ => some k_ ≠ (.slice (some ad271) t267.length co78 : Value).ownBlock) (.slice (some ad266) t262.length co15) t262) := ⟨by rw [← hq_]; exact (by (with_reducible repeat (first | apply Kd.R_alloc | apply Kd.R_drewN | apply Kd.R_drew)); exact HO_5.out)⟩; have n2_ : Aside0 (Kd.R Kd.string 9 wc w.heap.size (fun k_ => some k_ ≠ (.slice (some ad266) t262.length co15 : Value).ownBlock) (.slice (some ad271) t267.length co78) t267) := ⟨by rw [← hq_]; exact (by (with_reducible repeat (first | apply Kd.R_alloc | apply Kd.R_drewN | apply Kd.R_drew)); exact HO_9.out)⟩; have n3_ : Aside0 (wc.heap[gb260]? = some (.cells #[.int .i64 x261000_1, .int .i64 x261001_1, .int .u8 x261002_1, .slice none 0 0] 26 (0, 0))) := ⟨by rw [← hq_]; exact (bq_ BK260)⟩; have n4_ : Aside0 (wc.heap[gb261]? = some (.cells #[.int .i64 x262000_1, .int .i64 x262001_1, .int .u8 x262002_1, u262003] 26 (0, 0))) := ⟨by rw [← hq_]; exact (bq_ BK261)⟩; have n5_ : Aside0 (Below w.heap.size w wc) := ⟨by rw [← hq_]; exact (bh_ HB)⟩; clear HO_262003 HO_5 HO_9 BK260 BK261 HB hq_; have HO_262003 := n0_; have HO_5 := n1_; have HO_9 := n2_; have BK260 := n3_; have BK261 := n4_; have HB := n5_; clear n0_ n1_ n2_ n3_ n4_ n5_)); have p274 : 0 ≤ (2 : Int) := (by omega); have q274 : 2 < (t267.length : Int) := of_decide_eq_true (by first | (with_reducible assumption) | assumption); obtain ⟨ad274, e274, hx274_0⟩ := Kd.at_string (Kd.R_reads' HO_9.out).2.2 2 p274 q274; obtain rfl : ad271 = ad274 := (by injection e274); (try simp only [show (2 : Int).toNat = 2 from rfl, Nat.reduceMul, Nat.reduceEqDiff, Go.Addr.add, ↓reduceIte] at hx274_0); have qi274 : (2 < t267.length) = True := eq_true (by omega); (try rw [show ((2 : Int)).toNat = 2 from rfl] at hx274_0); replace p274 := eq_true p274; replace q274 := eq_true q274) | ((with_reducible refine gate_callee (f := 46) rfl ?_); refine gl_ (some 60) rfl rfl Tryz.func46 (by kernel_rfl) rfl #[.string (rdOf ByteArray.empty t267 2)] rfl ?_; (with_reducible refine (salvorref1_GetDec.calls kj13 (rdOf ByteArray.empty t267 2) t275 true _ A71.out).mono ?_); rintro e w' ⟨rfl, ⟨nd, rfl⟩⟩; refine ⟨_, rfl, ?_⟩; (try (rw [drewN_self wc]; generalize hq_ : World.drewN wc _ = wc; have n0_ : Aside0 (Kd.R k23 23 wc w.heap.size (fun _ => True) u262003 x262003_1) := ⟨by rw [← hq_]; exact (by (with_reducible repeat (first | apply Kd.R_alloc | apply Kd.R_drewN | apply Kd.R_drew)); exact HO_262003.out)⟩; have n1_ : Aside0 (Kd.R Kd.string 9 wc w.heap.size (fun k_ => some k_ ≠ (.slice (some ad271) t267.length co78 : Value).ownBlock) (.slice (some ad266) t262.length co15) t262) := ⟨by rw [← hq_]; exact (by (with_reducible repeat (first | apply Kd.R_alloc | apply Kd.R_drewN | apply Kd.R_drew)); exact HO_5.out)⟩; have n2_ : Aside0 (Kd.R Kd.string 9 wc w.heap.size (fun k_ => some k_ ≠ (.slice (some ad266) t262.length co15 : Value).ownBlock) (.slice (some ad271) t267.length co78) t267) := ⟨by rw [← hq_]; exact (by (with_reducible repeat (first | apply Kd.R_alloc | apply Kd.R_drewN | apply Kd.R_drew)); exact HO_9.out)⟩; have n3_ : Aside0 (wc.heap[gb260]? = some (.cells #[.int .i64 x261000_1, .int .i64 x261001_1, .int .u8 x261002_1, .slice none 0 0] 26 (0, 0))) := ⟨by rw [← hq_]; exact (bq_ BK260)⟩; have n4_ : Aside0 (wc.heap[gb261]? = some (.cells #[.int .i64 x262000_1, .int .i64 x262001_1, .int .u8 x262002_1, u262003] 26 (0, 0))) := ⟨by rw [← hq_]; exact (bq_ BK261)⟩; have n5_ : Aside0 (Below w.heap.size w wc) := ⟨by rw [← hq_]; exact (bh_ HB)⟩; clear HO_262003 HO_5 HO_9 BK260 BK261 HB hq_; have HO_262003 := n0_; have HO_5 := n1_; have HO_9 := n2_; have BK260 := n3_; have BK261 := n4_; have HB := n5_; clear n0_ n1_ n2_ n3_ n4_ n5_)); have p277 : 0 ≤ (1 : Int) := (by omega); have q277 : 1 < (t267.length : Int) := of_decide_eq_true (by first | (with_reducible assumption) | assumption); obtain ⟨ad277, e277, hx277_0⟩ := Kd.at_string (Kd.R_reads' HO_9.out).2.2 1 p277 q277; obtain rfl : ad271 = ad277 := (by injection e277); (try simp only [show (1 : Int).toNat = 1 from rfl, Nat.reduceMul, Nat.reduceEqDiff, Go.Addr.add, ↓reduceIte] at hx277_0); have qi277 : (1 < t267.length) = True := eq_true (by omega); (try rw [show ((1 : Int)).toNat = 1 from rfl] at hx277_0); replace p277 := eq_true p277; replace q277 := eq_true q277))
                  replace HO_5 := Aside0.mk (Kd.R_drew HO_5.out)
                  replace HO_9 := Aside0.mk (Kd.R_drew HO_9.out)
                  replace HO_262003 := Aside0.mk (Kd.R_drew HO_262003.out)
                  replace BK260 := Aside0.mk (blk_drew BK260.out)
                  replace BK261 := Aside0.mk (blk_drew BK261.out)
                  replace HB := Aside0.mk (below_drew1 HB.out)
                  have p278 : 0 ≤ (1 : Int) := (by omega)
                  have q278 : 1 < (t267.length : Int) := of_decide_eq_true (by first | (with_reducible assumption) | assumption)
                  obtain ⟨ad278, e278, hx278_0⟩ := Kd.at_string (Kd.R_reads' HO_9.out).2.2 1 p278 q278
                  obtain rfl : ad271 = ad278 := (by injection e278)
                  (try simp only [show (1 : Int).toNat = 1 from rfl, Nat.reduceMul, Nat.reduceEqDiff, Go.Addr.add, ↓reduceIte] at hx278_0)
                  have qi278 : (1 < t267.length) = True := eq_true (by omega)
                  (try rw [show ((1 : Int)).toNat = 1 from rfl] at hx278_0)
                  replace p278 := eq_true p278
                  replace q278 := eq_true q278
                  have p77 : 0 ≤ (0 : Int) := (by omega)
                  have q77 : 0 < (rdOf ByteArray.empty t267 1).size := (by have : (0 : Int) < ((rdOf ByteArray.empty t267 1).size : Int) := of_decide_eq_true (by first | (with_reducible assumption) | assumption); omega)
                  have hx77 : ∀ h : 0 < (rdOf ByteArray.empty t267 1).size, (((rdOf ByteArray.empty t267 1)[0]'h).toNat : Int) = bt (rdOf ByteArray.empty t267 1) 0 := bt_at (rdOf ByteArray.empty t267 1) 0
                  clear p77
                  have qi77 : (0 < ((rdOf ByteArray.empty t267 1).size : Int)) = True := eq_true (of_decide_eq_true (by first | (with_reducible assumption) | assumption))
                  replace q77 := eq_true q77
                  refine start_ (n := 13) (S := fun w' => w'.cell? ⟨ad271.block, ad271.off + 1, none⟩ = some (.string (rdOf ByteArray.empty t267 1))) (ds := []) #[false, false, false, false, false, false, false, false, false, false, false, false, false] (by kernel_rfl) rfl rfl (hx278_0) (fun hHeld => ?_); refine with_tabW salvorref16_Parse.tab18 salvorref16_Parse.bits18 (fun HT_ HW_ => ?_)
                  generalize wc.drew = w79 at HO_5 HO_9 HO_262003 BK260 BK261 HB hx278_0 hHeld ⊢
                  refine pu_ 0 77 (lb_ 13 1) rfl rfl (ao_ HT_) ?_
                  refine pu_ 1 78 (lb_ 13 3) rfl rfl (ao_ HT_) ?_
                  refine pu_ 2 79 (lb_ 13 7) rfl rfl (ao_ HT_) ?_
                  refine pu_ 5 82 (lb_ 13 39) rfl rfl (ao_ HT_) ?_
                  refine pu_ 6 83 (lb_ 13 103) rfl rfl (ao_ HT_) ?_
                  refine take_ (i := 3) (N := some 80) (v := ?_) (a' := ?_) #[true, true, true, true, false, true, true, false, false, false, false, false, false] rfl rfl (take_ofW HT_.out HW_.out (by kernel_rfl)) (fun _ _ _ h => h) (Or.inl ⟨by rfl, ?_⟩) hHeld ?_ ?_
                  rotate_left
                  ·intro w' s0
                   go_simp
                   with_reducible rfl
                  rotate_left
                  ·simp only [Act.put, List.setIfInBounds_toArray, List.set_cons_zero, List.set_cons_succ, i64_w, i32_w]
                   rfl
                  refine take_ (i := 4) (N := some 81) (v := ?_) (a' := ?_) #[true, true, true, true, true, true, true, false, false, false, false, false, false] rfl rfl (take_ofW HT_.out HW_.out (by kernel_rfl)) (fun _ _ _ h => h) (Or.inl ⟨by rfl, ?_⟩) hHeld ?_ ?_
                  rotate_left
                  ·intro w' s0
                   go_simp
                   with_reducible rfl
                  rotate_left
                  ·simp only [Act.put, List.setIfInBounds_toArray, List.set_cons_zero, List.set_cons_succ, i64_w, i32_w]
                   rfl
                  refine one_ (i := 7) (N := none) #[true, true, true, true, true, true, true, true, false, false, false, false, false] rfl rfl (one_of HT_.out (by kernel_rfl)) (by decide) (fun K hK => ?_)
                  have hs80 : w79.cell? ⟨gb261, 0, none⟩ = some (.int .i64 x262000_1) := (blk_cell BK261.out 0).trans rfl
                  have hfs80 := blk_frozen BK261.out 0
                  have hns80_0 := NB260_261.out
                  have hms80_0 := NB261_260.out
                  refine skip_ (w1 := ?_) (by rfl) rfl ?_ ?_
                  rotate_left
                  ·go_simp
                   rfl
                  refine hK.out _ _ (((cell_far (p := ⟨gb261, _, none⟩) (by first | exact (by first | exact Kd.own_blk (Kd.R_ne HO_9.out BK261.out (by decide)) | (have h_ := HO_9.out.1 _ rfl; first | exact h_.2 | exact h_.1.2 | exact h_.2.2 | exact h_.1.1.2)) | (rw [add_block]; exact (by first | exact Kd.own_blk (Kd.R_ne HO_9.out BK261.out (by decide)) | (have h_ := HO_9.out.1 _ rfl; first | exact h_.2 | exact h_.1.2 | exact h_.2.2 | exact h_.1.1.2))) | (show (Addr.add _ _).block ≠ _; rw [add_block]; exact (by first | exact Kd.own_blk (Kd.R_ne HO_9.out BK261.out (by decide)) | (have h_ := HO_9.out.1 _ rfl; first | exact h_.2 | exact h_.1.2 | exact h_.2.2 | exact h_.1.1.2))) | (dsimp only; exact (by first | exact Kd.own_blk (Kd.R_ne HO_9.out BK261.out (by decide)) | (have h_ := HO_9.out.1 _ rfl; first | exact h_.2 | exact h_.1.2 | exact h_.2.2 | exact h_.1.1.2)))) _).trans (hHeld))) (fun hHeld => ?_)
                  clear hK K
                  refine pu_ 8 84 (lb_ 13 511) rfl rfl (ao_ HT_) ?_
                  refine one_ (i := 9) (N := none) #[true, true, true, true, true, true, true, true, true, true, false, false, false] rfl rfl (one_of HT_.out (by kernel_rfl)) (by decide) (fun K hK => ?_)
                  have hs81 : w79.cell? ⟨gb261, 2, none⟩ = some (.int .u8 x262002_1) := (blk_cell BK261.out 2).trans rfl
                  have hfs81 := blk_frozen BK261.out 2
                  have hns81_0 := NB260_261.out
                  have hms81_0 := NB261_260.out
                  refine skip_ (w1 := ?_) (by rfl) rfl ?_ ?_
                  rotate_left
                  ·go_simp
                   rfl
                  refine hK.out _ _ (((cell_far (p := ⟨gb261, _, none⟩) (by first | exact (by first | exact Kd.own_blk (Kd.R_ne HO_9.out BK261.out (by decide)) | (have h_ := HO_9.out.1 _ rfl; first | exact h_.2 | exact h_.1.2 | exact h_.2.2 | exact h_.1.1.2)) | (rw [add_block]; exact (by first | exact Kd.own_blk (Kd.R_ne HO_9.out BK261.out (by decide)) | (have h_ := HO_9.out.1 _ rfl; first | exact h_.2 | exact h_.1.2 | exact h_.2.2 | exact h_.1.1.2))) | (show (Addr.add _ _).block ≠ _; rw [add_block]; exact (by first | exact Kd.own_blk (Kd.R_ne HO_9.out BK261.out (by decide)) | (have h_ := HO_9.out.1 _ rfl; first | exact h_.2 | exact h_.1.2 | exact h_.2.2 | exact h_.1.1.2))) | (dsimp only; exact (by first | exact Kd.own_blk (Kd.R_ne HO_9.out BK261.out (by decide)) | (have h_ := HO_9.out.1 _ rfl; first | exact h_.2 | exact h_.1.2 | exact h_.2.2 | exact h_.1.1.2)))) _).trans (hHeld))) (fun hHeld => ?_)
                  clear hK K
                  refine pu_ 10 85 (lb_ 13 2047) rfl rfl (ao_ HT_) ?_
                  refine one_ (i := 11) (N := none) #[true, true, true, true, true, true, true, true, true, true, true, true, false] rfl rfl (one_of HT_.out (by kernel_rfl)) (by decide) (fun K hK => ?_)
                  have hs82 : w79.cell? ⟨gb261, 1, none⟩ = some (.int .i64 x262001_1) := (blk_cell BK261.out 1).trans rfl
                  have hfs82 := blk_frozen BK261.out 1
                  have hns82_0 := NB260_261.out
                  have hms82_0 := NB261_260.out
                  refine skip_ (w1 := ?_) (by rfl) rfl ?_ ?_
                  rotate_left
                  ·go_simp
                   rfl
                  refine hK.out _ _ (((cell_far (p := ⟨gb261, _, none⟩) (by first | exact (by first | exact Kd.own_blk (Kd.R_ne HO_9.out BK261.out (by decide)) | (have h_ := HO_9.out.1 _ rfl; first | exact h_.2 | exact h_.1.2 | exact h_.2.2 | exact h_.1.1.2)) | (rw [add_block]; exact (by first | exact Kd.own_blk (Kd.R_ne HO_9.out BK261.out (by decide)) | (have h_ := HO_9.out.1 _ rfl; first | exact h_.2 | exact h_.1.2 | exact h_.2.2 | exact h_.1.1.2))) | (show (Addr.add _ _).block ≠ _; rw [add_block]; exact (by first | exact Kd.own_blk (Kd.R_ne HO_9.out BK261.out (by decide)) | (have h_ := HO_9.out.1 _ rfl; first | exact h_.2 | exact h_.1.2 | exact h_.2.2 | exact h_.1.1.2))) | (dsimp only; exact (by first | exact Kd.own_blk (Kd.R_ne HO_9.out BK261.out (by decide)) | (have h_ := HO_9.out.1 _ rfl; first | exact h_.2 | exact h_.1.2 | exact h_.2.2 | exact h_.1.1.2)))) _).trans (hHeld))) (fun hHeld => ?_)
                  clear hK K
                  refine pu_ 12 6 (lb_ 13 8191) rfl rfl (ao_ HT_) ?_
                  refine done_ (done_of HT_.out (by kernel_rfl)) ?_
                  try go_wp2
                  go_roundg kj13
                  case measure => have := HK1.out; have := HJ13.out; omega
                  case rel => exact ⟨(true), (x7_1), (wrap64 (x8_1 + 1)), (x261000_1), (x261001_1), (x261002_1), (t272), (t275), (bt (rdOf ByteArray.empty t267 1) 0), (x262003_1), (u262003), (by first | rfl | (simp; done) | (simp [*]; done)), (by first | rfl | (simp; done) | (simp [*]; done)), (by first | rfl | (simp; done) | (simp [*]; done)), H', ⟨by have := HK1.out; have := HJ13.out; omega⟩, ⟨by (with_reducible repeat (first | apply Kd.R_alloc | apply Kd.R_drewN | apply Kd.R_drew)); exact Kd.R_mono (Kd.R_far (p := ⟨gb261, 1, none⟩) (Kd.R_far (p := ⟨gb261, 2, none⟩) (Kd.R_far (p := ⟨gb261, 0, none⟩) (Kd.R_types HO_5.out BK261.out (by decide)) (fun _ hk => hk.2) (.int .i64 t272)) (fun _ hk => hk.2) (.int .u8 (bt (rdOf ByteArray.empty t267 1) 0))) (fun _ hk => hk.2) (.int .i64 t275)) (fun _ hk => trivial)⟩, ⟨by (with_reducible repeat (first | apply Kd.R_alloc | apply Kd.R_drewN | apply Kd.R_drew)); exact Kd.R_mono (Kd.R_far (p := ⟨gb261, 1, none⟩) (Kd.R_far (p := ⟨gb261, 2, none⟩) (Kd.R_far (p := ⟨gb261, 0, none⟩) (Kd.R_types HO_262003.out BK261.out (by decide)) (fun _ hk => hk.2) (.int .i64 t272)) (fun _ hk => hk.2) (.int .u8 (bt (rdOf ByteArray.empty t267 1) 0))) (fun _ hk => hk.2) (.int .i64 t275)) (fun _ hk => trivial)⟩, ⟨by (with_reducible repeat (first | refine blk_drewN ?_ _ | refine blk_drew ?_ | refine blk_alloc ?_ _)); refine blk_far ?_ NB260_261.out _; (with_reducible repeat (first | refine blk_drewN ?_ _ | refine blk_drew ?_ | refine blk_alloc ?_ _)); refine blk_far ?_ NB260_261.out _; (with_reducible repeat (first | refine blk_drewN ?_ _ | refine blk_drew ?_ | refine blk_alloc ?_ _)); refine blk_far ?_ NB260_261.out _; (with_reducible repeat (first | refine blk_drewN ?_ _ | refine blk_drew ?_ | refine blk_alloc ?_ _)); exact BK260.out⟩, ⟨by (with_reducible repeat (first | refine blk_drewN ?_ _ | refine blk_drew ?_ | refine blk_alloc ?_ _)); refine blk_put (cs := #[.int .i64 t272, .int .i64 x262001_1, .int .u8 (bt (rdOf ByteArray.empty t267 1) 0), u262003]) ?_ 1 _ rfl; (with_reducible repeat (first | refine blk_drewN ?_ _ | refine blk_drew ?_ | refine blk_alloc ?_ _)); refine blk_put (cs := #[.int .i64 t272, .int .i64 x262001_1, .int .u8 x262002_1, u262003]) ?_ 2 _ rfl; (with_reducible repeat (first | refine blk_drewN ?_ _ | refine blk_drew ?_ | refine blk_alloc ?_ _)); refine blk_put (cs := #[.int .i64 x262000_1, .int .i64 x262001_1, .int .u8 x262002_1, u262003]) ?_ 0 _ rfl; (with_reducible repeat (first | refine blk_drewN ?_ _ | refine blk_drew ?_ | refine blk_alloc ?_ _)); exact BK261.out⟩, ⟨bh_ HB⟩⟩
                 ·rw [if_neg c76] at H
                  exact absurd H (by simp)
                ·rw [if_neg c75] at H
                 have c75b0 : (((rdOf ByteArray.empty t267 1).size : Int) == 1) = false := beq_eq_false_iff_ne.mpr c75
                 have c75b1 : (((rdOf ByteArray.empty t267 1).size : Int) != 1) = true := bne_iff_ne.mpr c75
                 simp only [Option.some.injEq, Prod.mk.injEq] at H
                 obtain ⟨rfl, rfl, rfl, rfl, rfl⟩ := H
                 obtain ⟨Ao83, co83, eo83⟩ := Kd.R_slice HO_9.out
                 subst eo83
                 have p271 : 0 ≤ (0 : Int) := (by omega)
                 have q271 : 0 < (t267.length : Int) := of_decide_eq_true (by first | (with_reducible assumption) | assumption)
                 obtain ⟨ad271, e271, hx271_0⟩ := Kd.at_string (Kd.R_reads' HO_9.out).2.2 0 p271 q271
                 cases e271
                 have qi271 : (0 < t267.length) = True := eq_true (by omega)
                 (try rw [show ((0 : Int)).toNat = 0 from rfl] at hx271_0)
                 (try rw [Addr.add_zero'] at hx271_0)
                 replace p271 := eq_true p271
                 replace q271 := eq_true q271
                 go_wp2_with (first | ((with_reducible refine gate_callee (f := 45) rfl ?_); refine gl_ (some 51) rfl rfl Tryz.func45 (by kernel_rfl) rfl #[.string (rdOf ByteArray.empty t267 0)] rfl ?_; (with_reducible refine (salvorref16_place.calls kj13 (rdOf ByteArray.empty t267 0) t272 true _ A26.out).mono ?_); rintro e w' ⟨rfl, ⟨nd, rfl⟩⟩; refine ⟨_, rfl, ?_⟩; (try (rw [drewN_self wc]; generalize hq_ : World.drewN wc _ = wc; have n0_ : Aside0 (Kd.R k23 23 wc w.heap.size (fun _ => True) u262003 x262003_1) := ⟨by rw [← hq_]; exact (by (with_reducible repeat (first | apply Kd.R_alloc | apply Kd.R_drewN | apply Kd.R_drew)); exact HO_262003.out)⟩; have n1_ : Aside0 (Kd.R Kd.string 9 wc w.heap.size (fun k_ => some k_ ≠ (.slice (some ad271) t267.length co83 : Value).ownBlock) (.slice (some ad266) t262.length co15) t262) := ⟨by rw [← hq_]; exact (by (with_reducible repeat (first | apply Kd.R_alloc | apply Kd.R_drewN | apply Kd.R_drew)); exact HO_5.out)⟩; have n2_ : Aside0 (Kd.R Kd.string 9 wc w.heap.size (fun k_ => some k_ ≠ (.slice (some ad266) t262.length co15 : Value).ownBlock) (.slice (some ad271) t267.length co83) t267) := ⟨by rw [← hq_]; exact (by (with_reducible repeat (first | apply Kd.R_alloc | apply Kd.R_drewN | apply Kd.R_drew)); exact HO_9.out)⟩; have n3_ : Aside0 (wc.heap[gb260]? = some (.cells #[.int .i64 x261000_1, .int .i64 x261001_1, .int .u8 x261002_1, .slice none 0 0] 26 (0, 0))) := ⟨by rw [← hq_]; exact (bq_ BK260)⟩; have n4_ : Aside0 (wc.heap[gb261]? = some (.cells #[.int .i64 x262000_1, .int .i64 x262001_1, .int .u8 x262002_1, u262003] 26 (0, 0))) := ⟨by rw [← hq_]; exact (bq_ BK261)⟩; have n5_ : Aside0 (Below w.heap.size w wc) := ⟨by rw [← hq_]; exact (bh_ HB)⟩; clear HO_262003 HO_5 HO_9 BK260 BK261 HB hq_; have HO_262003 := n0_; have HO_5 := n1_; have HO_9 := n2_; have BK260 := n3_; have BK261 := n4_; have HB := n5_; clear n0_ n1_ n2_ n3_ n4_ n5_)); have p274 : 0 ≤ (2 : Int) := (by omega); have q274 : 2 < (t267.length : Int) := of_decide_eq_true (by first | (with_reducible assumption) | assumption); obtain ⟨ad274, e274, hx274_0⟩ := Kd.at_string (Kd.R_reads' HO_9.out).2.2 2 p274 q274; obtain rfl : ad271 = ad274 := (by injection e274); (try simp only [show (2 : Int).toNat = 2 from rfl, Nat.reduceMul, Nat.reduceEqDiff, Go.Addr.add, ↓reduceIte] at hx274_0); have qi274 : (2 < t267.length) = True := eq_true (by omega); (try rw [show ((2 : Int)).toNat = 2 from rfl] at hx274_0); replace p274 := eq_true p274; replace q274 := eq_true q274) | ((with_reducible refine gate_callee (f := 46) rfl ?_); refine gl_ (some 60) rfl rfl Tryz.func46 (by kernel_rfl) rfl #[.string (rdOf ByteArray.empty t267 2)] rfl ?_; (with_reducible refine (salvorref1_GetDec.calls kj13 (rdOf ByteArray.empty t267 2) t275 true _ A71.out).mono ?_); rintro e w' ⟨rfl, ⟨nd, rfl⟩⟩; refine ⟨_, rfl, ?_⟩; (try (rw [drewN_self wc]; generalize hq_ : World.drewN wc _ = wc; have n0_ : Aside0 (Kd.R k23 23 wc w.heap.size (fun _ => True) u262003 x262003_1) := ⟨by rw [← hq_]; exact (by (with_reducible repeat (first | apply Kd.R_alloc | apply Kd.R_drewN | apply Kd.R_drew)); exact HO_262003.out)⟩; have n1_ : Aside0 (Kd.R Kd.string 9 wc w.heap.size (fun k_ => some k_ ≠ (.slice (some ad271) t267.length co83 : Value).ownBlock) (.slice (some ad266) t262.length co15) t262) := ⟨by rw [← hq_]; exact (by (with_reducible repeat (first | apply Kd.R_alloc | apply Kd.R_drewN | apply Kd.R_drew)); exact HO_5.out)⟩; have n2_ : Aside0 (Kd.R Kd.string 9 wc w.heap.size (fun k_ => some k_ ≠ (.slice (some ad266) t262.length co15 : Value).ownBlock) (.slice (some ad271) t267.length co83) t267) := ⟨by rw [← hq_]; exact (by (with_reducible repeat (first | apply Kd.R_alloc | apply Kd.R_drewN | apply Kd.R_drew)); exact HO_9.out)⟩; have n3_ : Aside0 (wc.heap[gb260]? = some (.cells #[.int .i64 x261000_1, .int .i64 x261001_1, .int .u8 x261002_1, .slice none 0 0] 26 (0, 0))) := ⟨by rw [← hq_]; exact (bq_ BK260)⟩; have n4_ : Aside0 (wc.heap[gb261]? = some (.cells #[.int .i64 x262000_1, .int .i64 x262001_1, .int .u8 x262002_1, u262003] 26 (0, 0))) := ⟨by rw [← hq_]; exact (bq_ BK261)⟩; have n5_ : Aside0 (Below w.heap.size w wc) := ⟨by rw [← hq_]; exact (bh_ HB)⟩; clear HO_262003 HO_5 HO_9 BK260 BK261 HB hq_; have HO_262003 := n0_; have HO_5 := n1_; have HO_9 := n2_; have BK260 := n3_; have BK261 := n4_; have HB := n5_; clear n0_ n1_ n2_ n3_ n4_ n5_)); have p277 : 0 ≤ (1 : Int) := (by omega); have q277 : 1 < (t267.length : Int) := of_decide_eq_true (by first | (with_reducible assumption) | assumption); obtain ⟨ad277, e277, hx277_0⟩ := Kd.at_string (Kd.R_reads' HO_9.out).2.2 1 p277 q277; obtain rfl : ad271 = ad277 := (by injection e277); (try simp only [show (1 : Int).toNat = 1 from rfl, Nat.reduceMul, Nat.reduceEqDiff, Go.Addr.add, ↓reduceIte] at hx277_0); have qi277 : (1 < t267.length) = True := eq_true (by omega); (try rw [show ((1 : Int)).toNat = 1 from rfl] at hx277_0); replace p277 := eq_true p277; replace q277 := eq_true q277; have hnb84 := NB260_261.out; have hnc84 := NB261_260.out; obtain ⟨hcz85_0, hcz85_1, hcz85_2, hcz85_3, hfz85_0, hfz85_1, hfz85_2, hfz85_3⟩ := c4_ BK260))
                 refine bodyPost_ret (results_ct rfl _ _ gb260 26 #[.int .i64 0, .int .i64 0, .int .u8 0, .slice none 0 0] (0, 0) _ rfl (bp_ BK260) Tryz.underlying26 rfl (by kernel_rfl)) rfl ?_
                 exact ⟨_, by first | rfl | (simp [errW_none, errW_some] <;> rfl) | (simp [*, errW_none, errW_some] <;> rfl), by first | exact Kd.R_nil _ _ _ _ _ | exact Kd.N_nil _ _ _ _ _ | exact Kd.V_nil _ _ _ _ _ | exact Kd.Q_nil _ _ _ _ _ | exact Kd.S_nil _ _ _ _ _, bh_ HB⟩
               ·rw [if_neg c74] at H
                exact absurd H (by simp)
              ·replace c73 := Bool.eq_false_iff.mpr c73
               subst c73
               have H1 : (some (0, 0, 0, ([] : List (S23)), 6)) = some (r1, r2, r3, r4, r5) := by rw [if_neg (show ¬ (false = true) by decide)] at H; exact H
               clear H
               have H := H1
               clear H1
               simp only [Option.some.injEq, Prod.mk.injEq] at H
               obtain ⟨rfl, rfl, rfl, rfl, rfl⟩ := H
               obtain ⟨Ao86, co86, eo86⟩ := Kd.R_slice HO_9.out
               subst eo86
               have p271 : 0 ≤ (0 : Int) := (by omega)
               have q271 : 0 < (t267.length : Int) := of_decide_eq_true (by first | (with_reducible assumption) | assumption)
               obtain ⟨ad271, e271, hx271_0⟩ := Kd.at_string (Kd.R_reads' HO_9.out).2.2 0 p271 q271
               cases e271
               have qi271 : (0 < t267.length) = True := eq_true (by omega)
               (try rw [show ((0 : Int)).toNat = 0 from rfl] at hx271_0)
               (try rw [Addr.add_zero'] at hx271_0)
               replace p271 := eq_true p271
               replace q271 := eq_true q271
               go_wp2_with (first | ((with_reducible refine gate_callee (f := 45) rfl ?_); refine gl_ (some 51) rfl rfl Tryz.func45 (by kernel_rfl) rfl #[.string (rdOf ByteArray.empty t267 0)] rfl ?_; (with_reducible refine (salvorref16_place.calls kj13 (rdOf ByteArray.empty t267 0) t272 true _ A26.out).mono ?_); rintro e w' ⟨rfl, ⟨nd, rfl⟩⟩; refine ⟨_, rfl, ?_⟩; (try (rw [drewN_self wc]; generalize hq_ : World.drewN wc _ = wc; have n0_ : Aside0 (Kd.R k23 23 wc w.heap.size (fun _ => True) u262003 x262003_1) := ⟨by rw [← hq_]; exact (by (with_reducible repeat (first | apply Kd.R_alloc | apply Kd.R_drewN | apply Kd.R_drew)); exact HO_262003.out)⟩; have n1_ : Aside0 (Kd.R Kd.string 9 wc w.heap.size (fun k_ => some k_ ≠ (.slice (some ad271) t267.length co86 : Value).ownBlock) (.slice (some ad266) t262.length co15) t262) := ⟨by rw [← hq_]; exact (by (with_reducible repeat (first | apply Kd.R_alloc | apply Kd.R_drewN | apply Kd.R_drew)); exact HO_5.out)⟩; have n2_ : Aside0 (Kd.R Kd.string 9 wc w.heap.size (fun k_ => some k_ ≠ (.slice (some ad266) t262.length co15 : Value).ownBlock) (.slice (some ad271) t267.length co86) t267) := ⟨by rw [← hq_]; exact (by (with_reducible repeat (first | apply Kd.R_alloc | apply Kd.R_drewN | apply Kd.R_drew)); exact HO_9.out)⟩; have n3_ : Aside0 (wc.heap[gb260]? = some (.cells #[.int .i64 x261000_1, .int .i64 x261001_1, .int .u8 x261002_1, .slice none 0 0] 26 (0, 0))) := ⟨by rw [← hq_]; exact (bq_ BK260)⟩; have n4_ : Aside0 (wc.heap[gb261]? = some (.cells #[.int .i64 x262000_1, .int .i64 x262001_1, .int .u8 x262002_1, u262003] 26 (0, 0))) := ⟨by rw [← hq_]; exact (bq_ BK261)⟩; have n5_ : Aside0 (Below w.heap.size w wc) := ⟨by rw [← hq_]; exact (bh_ HB)⟩; clear HO_262003 HO_5 HO_9 BK260 BK261 HB hq_; have HO_262003 := n0_; have HO_5 := n1_; have HO_9 := n2_; have BK260 := n3_; have BK261 := n4_; have HB := n5_; clear n0_ n1_ n2_ n3_ n4_ n5_)); have p274 : 0 ≤ (2 : Int) := (by omega); have q274 : 2 < (t267.length : Int) := of_decide_eq_true (by first | (with_reducible assumption) | assumption); obtain ⟨ad274, e274, hx274_0⟩ := Kd.at_string (Kd.R_reads' HO_9.out).2.2 2 p274 q274; obtain rfl : ad271 = ad274 := (by injection e274); (try simp only [show (2 : Int).toNat = 2 from rfl, Nat.reduceMul, Nat.reduceEqDiff, Go.Addr.add, ↓reduceIte] at hx274_0); have qi274 : (2 < t267.length) = True := eq_true (by omega); (try rw [show ((2 : Int)).toNat = 2 from rfl] at hx274_0); replace p274 := eq_true p274; replace q274 := eq_true q274) | ((with_reducible refine gate_callee (f := 46) rfl ?_); refine gl_ (some 60) rfl rfl Tryz.func46 (by kernel_rfl) rfl #[.string (rdOf ByteArray.empty t267 2)] rfl ?_; (with_reducible refine (salvorref1_GetDec.calls kj13 (rdOf ByteArray.empty t267 2) t275 false _ A71.out).mono ?_); rintro e w' ⟨rfl, ⟨nd, rfl⟩⟩; refine ⟨_, rfl, ?_⟩; (try (rw [drewN_self wc]; generalize hq_ : World.drewN wc _ = wc; have n0_ : Aside0 (Kd.R k23 23 wc w.heap.size (fun _ => True) u262003 x262003_1) := ⟨by rw [← hq_]; exact (by (with_reducible repeat (first | apply Kd.R_alloc | apply Kd.R_drewN | apply Kd.R_drew)); exact HO_262003.out)⟩; have n1_ : Aside0 (Kd.R Kd.string 9 wc w.heap.size (fun k_ => some k_ ≠ (.slice (some ad271) t267.length co86 : Value).ownBlock) (.slice (some ad266) t262.length co15) t262) := ⟨by rw [← hq_]; exact (by (with_reducible repeat (first | apply Kd.R_alloc | apply Kd.R_drewN | apply Kd.R_drew)); exact HO_5.out)⟩; have n2_ : Aside0 (Kd.R Kd.string 9 wc w.heap.size (fun k_ => some k_ ≠ (.slice (some ad266) t262.length co15 : Value).ownBlock) (.slice (some ad271) t267.length co86) t267) := ⟨by rw [← hq_]; exact (by (with_reducible repeat (first | apply Kd.R_alloc | apply Kd.R_drewN | apply Kd.R_drew)); exact HO_9.out)⟩; have n3_ : Aside0 (wc.heap[gb260]? = some (.cells #[.int .i64 x261000_1, .int .i64 x261001_1, .int .u8 x261002_1, .slice none 0 0] 26 (0, 0))) := ⟨by rw [← hq_]; exact (bq_ BK260)⟩; have n4_ : Aside0 (wc.heap[gb261]? = some (.cells #[.int .i64 x262000_1, .int .i64 x262001_1, .int .u8 x262002_1, u262003] 26 (0, 0))) := ⟨by rw [← hq_]; exact (bq_ BK261)⟩; have n5_ : Aside0 (Below w.heap.size w wc) := ⟨by rw [← hq_]; exact (bh_ HB)⟩; clear HO_262003 HO_5 HO_9 BK260 BK261 HB hq_; have HO_262003 := n0_; have HO_5 := n1_; have HO_9 := n2_; have BK260 := n3_; have BK261 := n4_; have HB := n5_; clear n0_ n1_ n2_ n3_ n4_ n5_)); have hnb87 := NB260_261.out; have hnc87 := NB261_260.out; obtain ⟨hcz88_0, hcz88_1, hcz88_2, hcz88_3, hfz88_0, hfz88_1, hfz88_2, hfz88_3⟩ := c4_ BK260))
               refine bodyPost_ret (results_ct rfl _ _ gb260 26 #[.int .i64 0, .int .i64 0, .int .u8 0, .slice none 0 0] (0, 0) _ rfl (bp_ BK260) Tryz.underlying26 rfl (by kernel_rfl)) rfl ?_
               exact ⟨_, by first | rfl | (simp [errW_none, errW_some] <;> rfl) | (simp [*, errW_none, errW_some] <;> rfl), by first | exact Kd.R_nil _ _ _ _ _ | exact Kd.N_nil _ _ _ _ _ | exact Kd.V_nil _ _ _ _ _ | exact Kd.Q_nil _ _ _ _ _ | exact Kd.S_nil _ _ _ _ _, bh_ HB⟩
             ·replace c72 := Bool.eq_false_iff.mpr c72
              subst c72
              have H1 : (some (0, 0, 0, ([] : List (S23)), 6)) = some (r1, r2, r3, r4, r5) := by rw [if_neg (show ¬ (false = true) by decide)] at H; exact H
              clear H
              have H := H1
              clear H1
              simp only [Option.some.injEq, Prod.mk.injEq] at H
              obtain ⟨rfl, rfl, rfl, rfl, rfl⟩ := H
              obtain ⟨Ao89, co89, eo89⟩ := Kd.R_slice HO_9.out
              subst eo89
              have p271 : 0 ≤ (0 : Int) := (by omega)
              have q271 : 0 < (t267.length : Int) := of_decide_eq_true (by first | (with_reducible assumption) | assumption)
              obtain ⟨ad271, e271, hx271_0⟩ := Kd.at_string (Kd.R_reads' HO_9.out).2.2 0 p271 q271
              cases e271
              have qi271 : (0 < t267.length) = True := eq_true (by omega)
              (try rw [show ((0 : Int)).toNat = 0 from rfl] at hx271_0)
              (try rw [Addr.add_zero'] at hx271_0)
              replace p271 := eq_true p271
              replace q271 := eq_true q271
              go_wp2_with (first | ((with_reducible refine gate_callee (f := 45) rfl ?_); refine gl_ (some 51) rfl rfl Tryz.func45 (by kernel_rfl) rfl #[.string (rdOf ByteArray.empty t267 0)] rfl ?_; (with_reducible refine (salvorref16_place.calls kj13 (rdOf ByteArray.empty t267 0) t272 false _ A26.out).mono ?_); rintro e w' ⟨rfl, ⟨nd, rfl⟩⟩; refine ⟨_, rfl, ?_⟩; (try (rw [drewN_self wc]; generalize hq_ : World.drewN wc _ = wc; have n0_ : Aside0 (Kd.R k23 23 wc w.heap.size (fun _ => True) u262003 x262003_1) := ⟨by rw [← hq_]; exact (by (with_reducible repeat (first | apply Kd.R_alloc | apply Kd.R_drewN | apply Kd.R_drew)); exact HO_262003.out)⟩; have n1_ : Aside0 (Kd.R Kd.string 9 wc w.heap.size (fun k_ => some k_ ≠ (.slice (some ad271) t267.length co89 : Value).ownBlock) (.slice (some ad266) t262.length co15) t262) := ⟨by rw [← hq_]; exact (by (with_reducible repeat (first | apply Kd.R_alloc | apply Kd.R_drewN | apply Kd.R_drew)); exact HO_5.out)⟩; have n2_ : Aside0 (Kd.R Kd.string 9 wc w.heap.size (fun k_ => some k_ ≠ (.slice (some ad266) t262.length co15 : Value).ownBlock) (.slice (some ad271) t267.length co89) t267) := ⟨by rw [← hq_]; exact (by (with_reducible repeat (first | apply Kd.R_alloc | apply Kd.R_drewN | apply Kd.R_drew)); exact HO_9.out)⟩; have n3_ : Aside0 (wc.heap[gb260]? = some (.cells #[.int .i64 x261000_1, .int .i64 x261001_1, .int .u8 x261002_1, .slice none 0 0] 26 (0, 0))) := ⟨by rw [← hq_]; exact (bq_ BK260)⟩; have n4_ : Aside0 (wc.heap[gb261]? = some (.cells #[.int .i64 x262000_1, .int .i64 x262001_1, .int .u8 x262002_1, u262003] 26 (0, 0))) := ⟨by rw [← hq_]; exact (bq_ BK261)⟩; have n5_ : Aside0 (Below w.heap.size w wc) := ⟨by rw [← hq_]; exact (bh_ HB)⟩; clear HO_262003 HO_5 HO_9 BK260 BK261 HB hq_; have HO_262003 := n0_; have HO_5 := n1_; have HO_9 := n2_; have BK260 := n3_; have BK261 := n4_; have HB := n5_; clear n0_ n1_ n2_ n3_ n4_ n5_)); have p274 : 0 ≤ (2 : Int) := (by omega); have q274 : 2 < (t267.length : Int) := of_decide_eq_true (by first | (with_reducible assumption) | assumption); obtain ⟨ad274, e274, hx274_0⟩ := Kd.at_string (Kd.R_reads' HO_9.out).2.2 2 p274 q274; obtain rfl : ad271 = ad274 := (by injection e274); (try simp only [show (2 : Int).toNat = 2 from rfl, Nat.reduceMul, Nat.reduceEqDiff, Go.Addr.add, ↓reduceIte] at hx274_0); have qi274 : (2 < t267.length) = True := eq_true (by omega); (try rw [show ((2 : Int)).toNat = 2 from rfl] at hx274_0); replace p274 := eq_true p274; replace q274 := eq_true q274) | ((with_reducible refine gate_callee (f := 46) rfl ?_); refine gl_ (some 60) rfl rfl Tryz.func46 (by kernel_rfl) rfl #[.string (rdOf ByteArray.empty t267 2)] rfl ?_; (with_reducible refine (salvorref1_GetDec.calls kj13 (rdOf ByteArray.empty t267 2) t275 t276 _ A71.out).mono ?_); rintro e w' ⟨rfl, ⟨nd, rfl⟩⟩; refine ⟨_, rfl, ?_⟩; (try (rw [drewN_self wc]; generalize hq_ : World.drewN wc _ = wc; have n0_ : Aside0 (Kd.R k23 23 wc w.heap.size (fun _ => True) u262003 x262003_1) := ⟨by rw [← hq_]; exact (by (with_reducible repeat (first | apply Kd.R_alloc | apply Kd.R_drewN | apply Kd.R_drew)); exact HO_262003.out)⟩; have n1_ : Aside0 (Kd.R Kd.string 9 wc w.heap.size (fun k_ => some k_ ≠ (.slice (some ad271) t267.length co89 : Value).ownBlock) (.slice (some ad266) t262.length co15) t262) := ⟨by rw [← hq_]; exact (by (with_reducible repeat (first | apply Kd.R_alloc | apply Kd.R_drewN | apply Kd.R_drew)); exact HO_5.out)⟩; have n2_ : Aside0 (Kd.R Kd.string 9 wc w.heap.size (fun k_ => some k_ ≠ (.slice (some ad266) t262.length co15 : Value).ownBlock) (.slice (some ad271) t267.length co89) t267) := ⟨by rw [← hq_]; exact (by (with_reducible repeat (first | apply Kd.R_alloc | apply Kd.R_drewN | apply Kd.R_drew)); exact HO_9.out)⟩; have n3_ : Aside0 (wc.heap[gb260]? = some (.cells #[.int .i64 x261000_1, .int .i64 x261001_1, .int .u8 x261002_1, .slice none 0 0] 26 (0, 0))) := ⟨by rw [← hq_]; exact (bq_ BK260)⟩; have n4_ : Aside0 (wc.heap[gb261]? = some (.cells #[.int .i64 x262000_1, .int .i64 x262001_1, .int .u8 x262002_1, u262003] 26 (0, 0))) := ⟨by rw [← hq_]; exact (bq_ BK261)⟩; have n5_ : Aside0 (Below w.heap.size w wc) := ⟨by rw [← hq_]; exact (bh_ HB)⟩; clear HO_262003 HO_5 HO_9 BK260 BK261 HB hq_; have HO_262003 := n0_; have HO_5 := n1_; have HO_9 := n2_; have BK260 := n3_; have BK261 := n4_; have HB := n5_; clear n0_ n1_ n2_ n3_ n4_ n5_)); have hnb90 := NB260_261.out; have hnc90 := NB261_260.out; obtain ⟨hcz91_0, hcz91_1, hcz91_2, hcz91_3, hfz91_0, hfz91_1, hfz91_2, hfz91_3⟩ := c4_ BK260))
              refine bodyPost_ret (results_ct rfl _ _ gb260 26 #[.int .i64 0, .int .i64 0, .int .u8 0, .slice none 0 0] (0, 0) _ rfl (bp_ BK260) Tryz.underlying26 rfl (by kernel_rfl)) rfl ?_
              exact ⟨_, by first | rfl | (simp [errW_none, errW_some] <;> rfl) | (simp [*, errW_none, errW_some] <;> rfl), by first | exact Kd.R_nil _ _ _ _ _ | exact Kd.N_nil _ _ _ _ _ | exact Kd.V_nil _ _ _ _ _ | exact Kd.Q_nil _ _ _ _ _ | exact Kd.S_nil _ _ _ _ _, bh_ HB⟩
            ·rw [if_neg c70] at H
             exact absurd H (by simp)
          ·rw [if_neg c25] at H
           exact absurd H (by simp)
         ·rw [if_neg c24] at H
          have c24b0 : ((t267.length : Int) == 3) = false := beq_eq_false_iff_ne.mpr c24
          have c24b1 : ((t267.length : Int) != 3) = true := bne_iff_ne.mpr c24
          simp only [Option.some.injEq, Prod.mk.injEq] at H
          obtain ⟨rfl, rfl, rfl, rfl, rfl⟩ := H
          obtain ⟨Ao92, co92, eo92⟩ := Kd.R_slice HO_9.out
          subst eo92
          have hnb93 := NB260_261.out
          have hnc93 := NB261_260.out
          obtain ⟨hcz94_0, hcz94_1, hcz94_2, hcz94_3, hfz94_0, hfz94_1, hfz94_2, hfz94_3⟩ := c4_ BK260
          go_wp2
          refine bodyPost_ret (results_ct rfl _ _ gb260 26 #[.int .i64 0, .int .i64 0, .int .u8 0, .slice none 0 0] (0, 0) _ rfl (bp_ BK260) Tryz.underlying26 rfl (by kernel_rfl)) rfl ?_
          exact ⟨_, by first | rfl | (simp [errW_none, errW_some] <;> rfl) | (simp [*, errW_none, errW_some] <;> rfl), by first | exact Kd.R_nil _ _ _ _ _ | exact Kd.N_nil _ _ _ _ _ | exact Kd.V_nil _ _ _ _ _ | exact Kd.Q_nil _ _ _ _ _ | exact Kd.S_nil _ _ _ _ _, bh_ HB⟩
     ·rw [if_neg c12] at H
      exact absurd H (by simp)
    ·rw [if_neg c11] at H
     have c11b0 : decide (x8_1 < (t262.length : Int)) = false := decide_eq_false c11
     clear c11
     by_cases c95 : x6_1 = true
     ·subst c95
      have H1 : ((salvorref16_MayMap.f k1 x262000_1 x262001_1 x262002_1 x262003_1).bind fun t265 => (if t265 = true then (some (x262000_1, x262001_1, x262002_1, x262003_1, 0)) else (some (0, 0, 0, ([] : List (S23)), 6)))) = some (r1, r2, r3, r4, r5) := by rw [if_pos rfl] at H; exact H
      clear H
      have H := H1
      clear H1
      replace H := Option.bind_eq_some_iff.mp H
      obtain ⟨t265, A960, H⟩ := H
      replace H : (if t265 = true then (some (x262000_1, x262001_1, x262002_1, x262003_1, 0)) else (some (0, 0, 0, ([] : List (S23)), 6))) = some (r1, r2, r3, r4, r5) := H
      have A96 := Aside0.mk A960
      clear A960
      by_cases c97 : t265 = true
      ·subst c97
       have H1 : (some (x262000_1, x262001_1, x262002_1, x262003_1, 0)) = some (r1, r2, r3, r4, r5) := by rw [if_pos rfl] at H; exact H
       clear H
       have H := H1
       clear H1
       simp only [Option.some.injEq, Prod.mk.injEq] at H
       obtain ⟨rfl, rfl, rfl, rfl, rfl⟩ := H
       obtain ⟨Ao98, co98, eo98⟩ := Kd.R_slice HO_5.out
       subst eo98
       have hnb99 := NB261_260.out
       have hnc99 := NB260_261.out
       obtain ⟨hcz100_0, hcz100_1, hcz100_2, hcz100_3, hfz100_0, hfz100_1, hfz100_2, hfz100_3⟩ := c4_ BK261
       obtain ⟨Ao101, co101, eo101⟩ := Kd.R_slice HO_262003.out
       subst eo101
       go_wp2_with (first | (go_at_call 15; (with_reducible refine (salvorref16_MayMap.calls k1 x262000_1 x262001_1 x262002_1 _ _ x262003_1 true _ ?side1 ?side2 A96.out).mono ?_); (case side1 => repeat (first | exact (Kd.R_reads' HO_262003.out).2.2 | (with_reducible refine Kd.C_alloc ?_ _) | (with_reducible refine Kd.C_drewN ?_ _) | (with_reducible refine Kd.C_drew ?_))); (case side2 => exact (Kd.R_reads' HO_262003.out).2.1); rintro e w102 ⟨rfl, hb⟩; have n0_ := Aside0.mk (Kd.R_below (by (with_reducible repeat (first | apply Kd.R_alloc | apply Kd.R_drewN | apply Kd.R_drew)); exact HO_5.out) hb); have n1_ := Aside0.mk (Kd.R_below (by (with_reducible repeat (first | apply Kd.R_alloc | apply Kd.R_drewN | apply Kd.R_drew)); exact HO_262003.out) hb); have n2_ := bb_ BK260 hb; have n3_ := bb_ BK261 hb; have n4_ := bs_ HB hb; clear HO_5; clear HO_262003; clear BK260; clear BK261; clear HB; have HO_5 := n0_; have HO_262003 := n1_; have BK260 := n2_; have BK261 := n3_; have HB := n4_; clear n0_ n1_ n2_ n3_ n4_; (try clear hb); obtain ⟨hcz103_0, hcz103_1, hcz103_2, hcz103_3, hfz103_0, hfz103_1, hfz103_2, hfz103_3⟩ := c4_ BK261; obtain ⟨hcz104_0, hcz104_1, hcz104_2, hcz104_3, hfz104_0, hfz104_1, hfz104_2, hfz104_3⟩ := c4_ BK260))
       refine bodyPost_ret (results_ct rfl _ _ gb260 26 #[.int .i64 x262000_1, .int .i64 x262001_1, .int .u8 x262002_1, .slice Ao101 x262003_1.length co101] (0, 0) _ rfl (bp_ BK260) Tryz.underlying26 rfl (by kernel_rfl)) rfl ?_
       exact ⟨_, by first | rfl | (simp [errW_none, errW_some] <;> rfl) | (simp [*, errW_none, errW_some] <;> rfl), by (with_reducible repeat (first | apply Kd.R_alloc | apply Kd.R_drewN | apply Kd.R_drew)); exact Kd.R_mono (Kd.R_far (p := ⟨gb260, 3, none⟩) (Kd.R_far (p := ⟨gb260, 2, none⟩) (Kd.R_far (p := ⟨gb260, 1, none⟩) (Kd.R_far (p := ⟨gb260, 0, none⟩) (Kd.R_types HO_262003.out BK260.out (by decide)) (fun _ hk => hk.2) (.int .i64 x262000_1)) (fun _ hk => hk.2) (.int .i64 x262001_1)) (fun _ hk => hk.2) (.int .u8 x262002_1)) (fun _ hk => hk.2) (.slice Ao101 x262003_1.length co101)) (fun _ hk => trivial), bh_ HB⟩
      ·replace c97 := Bool.eq_false_iff.mpr c97
       subst c97
       have H1 : (some (0, 0, 0, ([] : List (S23)), 6)) = some (r1, r2, r3, r4, r5) := by rw [if_neg (show ¬ (false = true) by decide)] at H; exact H
       clear H
       have H := H1
       clear H1
       simp only [Option.some.injEq, Prod.mk.injEq] at H
       obtain ⟨rfl, rfl, rfl, rfl, rfl⟩ := H
       obtain ⟨Ao105, co105, eo105⟩ := Kd.R_slice HO_5.out
       subst eo105
       have hnb106 := NB261_260.out
       have hnc106 := NB260_261.out
       obtain ⟨hcz107_0, hcz107_1, hcz107_2, hcz107_3, hfz107_0, hfz107_1, hfz107_2, hfz107_3⟩ := c4_ BK261
       obtain ⟨Ao108, co108, eo108⟩ := Kd.R_slice HO_262003.out
       subst eo108
       go_wp2_with (first | (go_at_call 15; (with_reducible refine (salvorref16_MayMap.calls k1 x262000_1 x262001_1 x262002_1 _ _ x262003_1 false _ ?side1 ?side2 A96.out).mono ?_); (case side1 => repeat (first | exact (Kd.R_reads' HO_262003.out).2.2 | (with_reducible refine Kd.C_alloc ?_ _) | (with_reducible refine Kd.C_drewN ?_ _) | (with_reducible refine Kd.C_drew ?_))); (case side2 => exact (Kd.R_reads' HO_262003.out).2.1); rintro e w109 ⟨rfl, hb⟩; have n0_ := Aside0.mk (Kd.R_below (by (with_reducible repeat (first | apply Kd.R_alloc | apply Kd.R_drewN | apply Kd.R_drew)); exact HO_5.out) hb); have n1_ := Aside0.mk (Kd.R_below (by (with_reducible repeat (first | apply Kd.R_alloc | apply Kd.R_drewN | apply Kd.R_drew)); exact HO_262003.out) hb); have n2_ := bb_ BK260 hb; have n3_ := bb_ BK261 hb; have n4_ := bs_ HB hb; clear HO_5; clear HO_262003; clear BK260; clear BK261; clear HB; have HO_5 := n0_; have HO_262003 := n1_; have BK260 := n2_; have BK261 := n3_; have HB := n4_; clear n0_ n1_ n2_ n3_ n4_; (try clear hb); obtain ⟨hcz110_0, hcz110_1, hcz110_2, hcz110_3, hfz110_0, hfz110_1, hfz110_2, hfz110_3⟩ := c4_ BK260))
       refine bodyPost_ret (results_ct rfl _ _ gb260 26 #[.int .i64 0, .int .i64 0, .int .u8 0, .slice none 0 0] (0, 0) _ rfl (bp_ BK260) Tryz.underlying26 rfl (by kernel_rfl)) rfl ?_
       exact ⟨_, by first | rfl | (simp [errW_none, errW_some] <;> rfl) | (simp [*, errW_none, errW_some] <;> rfl), by first | exact Kd.R_nil _ _ _ _ _ | exact Kd.N_nil _ _ _ _ _ | exact Kd.V_nil _ _ _ _ _ | exact Kd.Q_nil _ _ _ _ _ | exact Kd.S_nil _ _ _ _ _, bh_ HB⟩
     ·replace c95 := Bool.eq_false_iff.mpr c95
      subst c95
      have H1 : (some (0, 0, 0, ([] : List (S23)), 6)) = some (r1, r2, r3, r4, r5) := by rw [if_neg (show ¬ (false = true) by decide)] at H; exact H
      clear H
      have H := H1
      clear H1
      simp only [Option.some.injEq, Prod.mk.injEq] at H
      obtain ⟨rfl, rfl, rfl, rfl, rfl⟩ := H
      obtain ⟨Ao111, co111, eo111⟩ := Kd.R_slice HO_5.out
      subst eo111
      have hnb112 := NB260_261.out
      have hnc112 := NB261_260.out
      obtain ⟨hcz113_0, hcz113_1, hcz113_2, hcz113_3, hfz113_0, hfz113_1, hfz113_2, hfz113_3⟩ := c4_ BK260
      go_wp2
      refine bodyPost_ret (results_ct rfl _ _ gb260 26 #[.int .i64 0, .int .i64 0, .int .u8 0, .slice none 0 0] (0, 0) _ rfl (bp_ BK260) Tryz.underlying26 rfl (by kernel_rfl)) rfl ?_
      exact ⟨_, by first | rfl | (simp [errW_none, errW_some] <;> rfl) | (simp [*, errW_none, errW_some] <;> rfl), by first | exact Kd.R_nil _ _ _ _ _ | exact Kd.N_nil _ _ _ _ _ | exact Kd.V_nil _ _ _ _ _ | exact Kd.Q_nil _ _ _ _ _ | exact Kd.S_nil _ _ _ _ _, bh_ HB⟩

end Go.Proofs.YtlcablcpcbmgeaaGreatDoor.P
