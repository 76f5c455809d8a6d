/- The walk of RegionPlaces: it returns true, where the parts make regions that tell each place's status. No conditions beyond those that the lemma names. -/
import Derived.Test.YtjgkfnbfjamccaaPx0
import Derived.Test.YtjgkfnbfjamccaaPx3
import Derived.Test.YtjgkfnbfjamccaaPx9
import Derived.Test.YtjgkfnbfjamccaaPx10
import Derived.Test.YtjgkfnbfjamccaaPx11
import Derived.Test.YtjgkfnbfjamccaaPx20
import Derived.Test.YtjgkfnbfjamccaaPx21
import Derived.Test.YtjgkfnbfjamccaaPx23
import Derived.Test.YtjgkfnbfjamccaaRegI
namespace Go.Proofs.Ytjgkfnbfjamccaa.P
open Go.RowKit Go.Proofs.YtjgkfnbfjamccaaW.PrintWords Go.Proofs.YtjgkfnbfjamccaaW.PrintLast Go.Proofs.YtjgkfnbfjamccaaW.PrintMore Go.Proofs.Ytjgkfnbfjamccaa.Reg
set_option linter.unusedVariables false
set_option linter.unusedSimpArgs false
def arr (f : Nat → Int) : Array Value := ((List.range 256).map fun i => Value.int .i64 (f i)).toArray
theorem arr_get (f : Nat → Int) (j : Nat) (hj : j < 256) : (arr f)[j]? = some (.int .i64 (f j)) := by
  unfold arr
  simp [hj]
theorem arr_set (f : Nat → Int) (j : Nat) (x : Int) : (arr f).setIfInBounds j (.int .i64 x) = arr (fun i => if i = j then x else f i) := by
  unfold arr
  rw [List.setIfInBounds_toArray]
  congr 1
  apply List.ext_getElem (by simp)
  intro i h1 h2
  rw [List.getElem_set]
  simp only [List.getElem_map, List.getElem_range]
  by_cases c : j = i
  · subst c; simp
  · rw [if_neg c, if_neg (fun e => c e.symm)]
theorem arr_zero : Array.replicate 256 (Value.int .i64 0) = arr (fun _ => 0) := by
  apply Array.ext
  · simp [arr]
  · intro i h1 h2
    simp [arr]
/-- How many places ahead of one have a status. -/
def num (st : Int → Int) (c : Int) : Nat → Int
  | 0 => 0
  | p + 1 => num st c p + (if st p = c then 1 else 0)
theorem over_snoc (s x : Int) (a : List S40) (c : S40) : over s x (a ++ [c]) = if c.f0 ≤ x ∧ x < c.f0 + c.f1 then ofC c.f2 else over s x a := by
  induction a generalizing s with
  | nil => rfl
  | cons d t ih => exact ih _
theorem over_take (x : Int) (l : List S40) (i : Nat) (hi : i < l.length) : over 63 x (l.take (i + 1)) = if (rd_T40 l i).f0 ≤ x ∧ x < (rd_T40 l i).f0 + (rd_T40 l i).f1 then ofC (rd_T40 l i).f2 else over 63 x (l.take i) := by
  have e : rd_T40 l (i : Int) = l[i] := by simp [rd_T40, hi]
  rw [e, List.take_succ_eq_append_getElem hi, over_snoc]
theorem num_le (st : Int → Int) (c : Int) : ∀ p : Nat, 0 ≤ num st c p ∧ num st c p ≤ p
  | 0 => ⟨Int.le_refl _, Int.le_refl _⟩
  | p + 1 => by
    have := num_le st c p
    unfold num
    split <;> omega
theorem num_next (st : Int → Int) (c p : Nat) (h : st p = c) : (fun i : Nat => if i = c then num st c p + 1 else num st i p) = fun i : Nat => num st i (p + 1) := by
  funext i
  rw [show num st (i : Int) (p + 1) = num st (i : Int) p + (if st p = (i : Int) then 1 else 0) from rfl]
  by_cases e : i = c
  · subst e; rw [if_pos rfl, if_pos h]
  · rw [if_neg e, if_neg (by rw [h]; omega)]; omega
theorem of_nat (i : Int) : ∃ c : Nat, ofC i = (c : Int) ∧ c < 256 := by
  have h := ofC_is i
  generalize ofC i = s at h
  unfold isS at h
  simp only [Bool.or_eq_true, beq_iff_eq] at h
  exact ⟨s.toNat, by omega, by omega⟩
theorem over_is (x : Int) : ∀ (l : List S40) (s : Int), isS s = true → isS (over s x l) = true
  | [], s, h => h
  | c :: t, s, h => by
    unfold over
    apply over_is x t
    split
    · exact ofC_is _
    · exact h
theorem over_nat (x : Int) (l : List S40) : ∃ c : Nat, over 63 x l = (c : Int) ∧ c < 256 := by
  have h := over_is x l 63 rfl
  generalize over 63 x l = s at h
  unfold isS at h
  simp only [Bool.or_eq_true, beq_iff_eq] at h
  exact ⟨s.toNat, by omega, by omega⟩
theorem c_one (w : World) (b : Nat) (x : Int) (h : w.cell? ⟨b, 0, none⟩ = some (.int .u8 x)) : Kd.C (Kd.int .u8) w (some ⟨b, 0, none⟩) 1 [x] := by
  refine ⟨rfl, by omega, fun _ => ⟨_, rfl, fun j p hj => ?_⟩⟩
  match j, hj with
  | 0, hj =>
    simp only [List.getElem?_cons_zero, Option.some.injEq] at hj
    subst hj
    refine ⟨[.int .u8 x], rfl, rfl, fun i u hi => ?_⟩
    match i, hi with
    | 0, hi =>
      simp only [List.getElem?_cons_zero, Option.some.injEq] at hi
      subst hi
      exact h
theorem count_none (k : Nat) (A : Option Addr) (c : Nat) (T : List S26) (r : Int) (w : World) (hT : Kd.C k26 w A T.length T) (hc : T.length ≤ c) (h : region_Count.f k T [] = some r) : Calls Try.prog 15 #[.slice A T.length c, .slice none 0 0] w fun e w' => e = .returned (.int .i64 r) ∧ Below w.heap.size w w' :=
  region_Count.calls k A c T none 0 [] r w hT hc (Kd.C_nil _ _) (Nat.le_refl _) h
theorem count_one (k : Nat) (A B : Option Addr) (c : Nat) (T : List S26) (x r : Int) (w : World) (hT : Kd.C k26 w A T.length T) (hc : T.length ≤ c) (hx : Kd.C (Kd.int .u8) w B 1 [x]) (h : region_Count.f k T [x] = some r) : Calls Try.prog 15 #[.slice A T.length c, .slice B 1 1] w fun e w' => e = .returned (.int .i64 r) ∧ Below w.heap.size w w' :=
  region_Count.calls k A c T B 1 [x] r w hT hc hx (Nat.le_refl _) h
set_option maxHeartbeats 8000000 in
set_option maxRecDepth 100000 in
theorem places_walk (a0 : Nat) (h1 : a0 ≤ 255) (A1 : Option Addr) (c1 : Nat) (l1 : List S40) (w : World) (hr1 : Kd.C k40 w A1 l1.length l1) (hc1 : l1.length ≤ c1) (hl : l1.length ≤ 30) (hs : ∀ i : Nat, i < l1.length → Small (rd_T40 l1 i))
    (T : List S26) (hMade : ∃ k, salvorlaw16_Made.f k (a0 : Int) l1 = some T) (hMay : ∃ k, region_May.f k T = some true) (hEnd : ∃ k, region_End.f k T = some (a0 : Int))
    (hAt : ∀ p : Nat, p < a0 → ∃ k a b, region_At.f k T p = some (a, b, over 63 p l1, true) ∧ a ≤ p ∧ (p : Int) < a + b ∧ 0 ≤ a ∧ a + b ≤ 1099511627776)
    (hAtEnd : ∃ k, region_At.f k T a0 = some (0, 0, 0, false))
    (hCount : ∀ c : Int, ∃ k, region_Count.f k T [c] = some (num (fun x => over 63 x l1) c a0)) (hAll : ∃ k, region_Count.f k T [] = some (a0 : Int)) (hRuns : ∃ k, salvorlaw16_RegionRuns.f k = some true) :
    Calls Try.prog 8 #[.int .u8 a0, .slice A1 l1.length c1] w fun e w' => e = .returned (.bool true) ∧ Below w.heap.size w w' := by
  obtain ⟨kM, hMade⟩ := hMade
  obtain ⟨kY, hMay⟩ := hMay
  obtain ⟨kE, hEnd⟩ := hEnd
  obtain ⟨kZ, hAtEnd⟩ := hAtEnd
  obtain ⟨kA, hAll⟩ := hAll
  obtain ⟨kR, hRuns⟩ := hRuns
  have hu40 := Try.underlying40
  have hu26 := Try.underlying26
  have c5b0 : decide (30 < (l1.length : Int)) = false := decide_eq_false (by omega)
  have c5b1 : decide (30 < l1.length) = false := decide_eq_false (by omega)
  have HR1 := Aside0.mk hr1
  have HC1 := Aside0.mk hc1
  have HS := Aside0.mk hs
  have HAT := Aside0.mk hAt
  have HCO := Aside0.mk hCount
  have HLL := Aside0.mk hl
  have HA0 := Aside0.mk h1
  clear hr1 hc1 hs hAt hCount
  have hw0 : wrap64 (a0 : Int) = a0 := wrap_in (by omega) (by omega)
  go_enter Try.func8, Try.ntmps8
  go_wp2_with (first
    | (go_at_call 23; (with_reducible refine (salvorlaw16_Made.calls kM a0 _ _ l1 T _ HR1.out HC1.out hMade).mono ?_); rintro e w2 ⟨v, rfl, ho, hb⟩; obtain ⟨At, ct, eo⟩ := Kd.R_slice ho; subst eo; have HT := Aside0.mk (Kd.R_reads' ho).2.2; have HTC := Aside0.mk (Kd.R_reads' ho).2.1; have HR2 := Aside0.mk (Kd.C_below HR1.out hb); have B02 := Aside0.mk hb; have HB := Aside0.mk (Below.refl w2.heap.size w2); clear ho hb HR1)
    | (go_at_call 16; (with_reducible refine (region_May.calls kY _ _ T true _ (cb_ HT HB) HTC.out hMay).mono ?_); rintro e w3 ⟨rfl, hb⟩; replace HB := bs_ HB hb; clear hb)
    | (go_at_call 14; (with_reducible refine (region_End.calls kE _ _ T a0 _ (cb_ HT HB) HTC.out hEnd).mono ?_); rintro e w4 ⟨rfl, hb⟩; replace HB := bs_ HB hb; clear hb)
    | ((with_reducible refine gate_dst (N := 6) rfl ?_); refine box_e 6 (Array.replicate 256 (.int .i64 0)) 46 ?_; intro g hg w5 hbox hb; have GE := bg_ HB hg; have BX := Aside0.mk hbox; replace HB := bs_ HB hb; rw [arr_zero] at BX; clear hb hbox hg))
  go_loopw [7] (fun v wr => ∃ p : Nat, p ≤ a0 ∧ v = .int .i64 p ∧ Aside0 (wr.heap[g]? = some (.cells (arr (fun i => num (fun x => over 63 x l1) i p)) 46 (0, 0))) ∧ Aside0 (Below w2.heap.size w2 wr)) (fun v _ => a0 - (intOf v).toNat)
  case atStart => exact ⟨0, Nat.zero_le _, rfl, BX, HB⟩
  case round =>
    clear BX HB
    obtain ⟨p, hp, rfl, BX, HB⟩ := hrel
    by_cases hlt : p < a0
    · go_wp2
      go_loopw [8, 9] (fun vw vi wr => ∃ i : Nat, i ≤ l1.length ∧ vi = .int .i64 i ∧ vw = .int .u8 (over 63 p (l1.take i)) ∧ Aside0 (wr.heap[g]? = some (.cells (arr (fun i => num (fun x => over 63 x l1) i p)) 46 (0, 0))) ∧ Aside0 (Below w2.heap.size w2 wr)) (fun _ vi _ => l1.length - (intOf vi).toNat)
      case atStart => exact ⟨0, Nat.zero_le _, rfl, rfl, BX, HB⟩
      case round =>
        clear BX HB
        obtain ⟨i, hi, rfl, rfl, BX, HB⟩ := hrel
        by_cases hlti : i < l1.length
        · obtain ⟨⟨s1, s2⟩, ⟨s3, s4⟩, ⟨s5, s6⟩⟩ := HS.out i hlti
          have hov := Aside0.mk (over_take (p : Int) l1 i hlti)
          obtain ⟨ad, ead, hx0, hx1, hx2⟩ := at_T40 HR2.out (i : Int) (by omega) (by omega)
          cases ead
          replace hx0 := (HB.out.cell (World.block_lt_of_cell? w2 _ hx0)).trans hx0
          replace hx1 := (HB.out.cell (World.block_lt_of_cell? w2 _ hx1)).trans hx1
          replace hx2 := (HB.out.cell (World.block_lt_of_cell? w2 _ hx2)).trans hx2
          have q1 : (0 : Int) ≤ (i : Int) := by omega
          have q2 : (i : Int) < (l1.length : Int) := by omega
          have q3 : decide ((i : Int) < (l1.length : Int)) = true := decide_eq_true q2
          rw [Int.toNat_natCast] at hx0 hx1 hx2
          generalize rd_T40 l1 (i : Int) = cc at s1 s2 s3 s4 s5 s6 hov hx0 hx1 hx2
          have w1 : wrap64 cc.f0 = cc.f0 := wrap_in (by omega) (by omega)
          have w3 : wrap64 cc.f1 = cc.f1 := wrap_in (by omega) (by omega)
          have w4 : wrap64 (cc.f0 + cc.f1) = cc.f0 + cc.f1 := wrap_in (by omega) (by omega)
          have hcut := Aside0.mk (cut_of cc.f0 cc.f1 cc.f2 s5)
          have hHS := Aside0.mk q2
          replace q1 := eq_true q1
          replace q2 := eq_true q2
          by_cases g1 : cc.f0 ≤ (p : Int)
          · have d1 : decide (cc.f0 ≤ (p : Int)) = true := decide_eq_true g1
            by_cases g2 : (p : Int) < cc.f0 + cc.f1
            · have d2 : decide ((p : Int) < cc.f0 + cc.f1) = true := decide_eq_true g2
              go_wp2
              go_quiet (fail)
              go_wp2_with (first
                | (go_at_call 24; (with_reducible refine (salvorlaw16_Cut_of.calls cc.f0 cc.f1 cc.f2 _ _ hcut.out).mono ?_); rintro e w7 ⟨rfl, hb⟩; replace BX := bb_ BX hb; replace HB := bs_ HB hb; clear hb))
              go_roundw
              case rel => exact ⟨i + 1, by omega, by go_num, (by rw [hov.out, if_pos ⟨g1, g2⟩]), ⟨by (with_reducible repeat (first | refine blk_drewN ?_ _ | refine blk_drew ?_ | refine blk_alloc ?_ _)); exact BX.out⟩, ⟨bh_ HB⟩⟩
              case measure => simp [intOf]; omega
            · have d2 : decide ((p : Int) < cc.f0 + cc.f1) = false := decide_eq_false g2
              go_wp2
              go_quiet (fail)
              go_wp2
              go_roundw
              case rel => exact ⟨i + 1, by omega, by go_num, (by rw [hov.out, if_neg (fun h : cc.f0 ≤ (p : Int) ∧ (p : Int) < cc.f0 + cc.f1 => by omega)]), ⟨by (with_reducible repeat (first | refine blk_drewN ?_ _ | refine blk_drew ?_ | refine blk_alloc ?_ _)); exact BX.out⟩, ⟨bh_ HB⟩⟩
              case measure => simp [intOf]; omega
          · have d1 : decide (cc.f0 ≤ (p : Int)) = false := decide_eq_false g1
            go_wp2
            go_quiet (fail)
            go_wp2
            go_roundw
            case rel => exact ⟨i + 1, by omega, by go_num, (by rw [hov.out, if_neg (fun h : cc.f0 ≤ (p : Int) ∧ (p : Int) < cc.f0 + cc.f1 => by omega)]), ⟨by (with_reducible repeat (first | refine blk_drewN ?_ _ | refine blk_drew ?_ | refine blk_alloc ?_ _)); exact BX.out⟩, ⟨bh_ HB⟩⟩
            case measure => simp [intOf]; omega
        · obtain rfl : i = l1.length := by omega
          have q3 : decide ((l1.length : Int) < (l1.length : Int)) = false := decide_eq_false (by omega)
          obtain ⟨kp, a, b, hat, b1, b2, b3, b4⟩ := HAT.out p hlt
          obtain ⟨c, hc, hc2⟩ := over_nat (p : Int) l1
          have hat' := Aside0.mk hat
          clear hat
          rw [List.take_length]
          rw [hc] at hat' ⊢
          have hnum := num_le (fun x => over 63 x l1) c p
          have d1 : decide ((p : Int) < a) = false := decide_eq_false (by omega)
          have w1 : wrap64 (a + b) = a + b := wrap_in (by omega) (by omega)
          have d2 : decide (a + b ≤ (p : Int)) = false := decide_eq_false (by omega)
          have w3 : wrap64 (num (fun x => over 63 x l1) c p + 1) = num (fun x => over 63 x l1) c p + 1 := wrap_in (by omega) (by omega)
          have e1 := eq_true (show (0 : Int) ≤ (c : Int) by omega)
          have e2 := eq_true (show (c : Int) < 256 by omega)
          go_wp2_with (first
            | (go_at_call 25; (with_reducible refine (region_At.calls kp _ _ T (p : Int) a b c true _ (cb_ HT HB) HTC.out hat'.out).mono ?_); rintro e w7 ⟨rfl, hb⟩; replace BX := bb_ BX hb; replace HB := bs_ HB hb; clear hb)
            | ((with_reducible refine gate_dst (N := 10) rfl ?_); refine box_e 10 #[.int .i64 0, .int .i64 0, .int .u8 0] 26 ?_; intro gb hg w8 hbox hb; have NE := bn_ BX hg; have NE' := bm_ BX hg; have GB := bg_ HB hg; have BK := Aside0.mk hbox; replace BX := bb_ BX hb; replace HB := bs_ HB hb; clear hb hbox hg; have hn1 := NE.out; have hn2 := NE'.out; obtain ⟨hz0, hz1, hz2, hf0, hf1, hf2⟩ := c3_ BK; have hgc : w8.cell? ⟨g, c, none⟩ = some (.int .i64 (num (fun x => over 63 x l1) c p)) := (blk_cell BX.out c).trans (arr_get _ c hc2); have hgf : w8.frozen? ⟨g, c, none⟩ = false := blk_frozen BX.out c))
          have BX9 := blk_set (blk_far (blk_far (blk_far BX.out (p := ⟨gb, 0, none⟩) NE.out (.int .i64 a)) (p := ⟨gb, 1, none⟩) NE.out (.int .i64 b)) (p := ⟨gb, 2, none⟩) NE.out (.int .u8 c)) c (.int .i64 (num (fun x => over 63 x l1) c p + 1))
          rw [arr_set, num_next (fun x => over 63 x l1) c p hc] at BX9
          go_roundw
          case rel => exact ⟨p + 1, by omega, by go_num, ⟨BX9⟩, ⟨bh_ HB⟩⟩
          case measure => simp [intOf]; omega
    · obtain rfl : p = a0 := by omega
      have d0 : decide ((p : Int) < (p : Int)) = false := decide_eq_false (by omega)
      go_wp2
      go_loopw [12] (fun v wr => ∃ i : Nat, i ≤ 5 ∧ v = .int .i64 i ∧ Aside0 (wr.heap[g]? = some (.cells (arr (fun i => num (fun x => over 63 x l1) i p)) 46 (0, 0))) ∧ Aside0 (Below w2.heap.size w2 wr)) (fun v _ => 5 - (intOf v).toNat)
      case atStart => exact ⟨0, Nat.zero_le _, rfl, BX, HB⟩
      case round =>
        clear BX HB
        obtain ⟨i, hi, rfl, BX, HB⟩ := hrel
        by_cases hlt : i < 5
        · obtain ⟨c, hc, hc2⟩ := of_nat (i : Int)
          have hcut := Aside0.mk (hc ▸ cut_of 0 0 (i : Int) (by omega))
          obtain ⟨kc, hco0⟩ := HCO.out c
          have hco := Aside0.mk hco0
          clear hco0
          have hnum := num_le (fun x => over 63 x l1) c p
          have e1 := eq_true (show (0 : Int) ≤ (c : Int) by omega)
          have e2 := eq_true (show (c : Int) < 256 by omega)
          go_wp2_with (first
            | (go_at_call 24; (with_reducible refine (salvorlaw16_Cut_of.calls 0 0 (i : Int) _ _ hcut.out).mono ?_); rintro e w10 ⟨rfl, hb⟩; replace BX := bb_ BX hb; replace HB := bs_ HB hb; clear hb))
          have hgc := (blk_cell BX.out c).trans (arr_get _ c hc2)
          have hin := HB.out
          have hib := BX.out
          have HKS : ∀ W : World, W.heap[g]? = some (.cells (arr (fun i => num (fun x => over 63 x l1) i p)) 46 (0, 0)) → Below w2.heap.size w2 W → (W.cell? ⟨g, c, none⟩ = some (.int .i64 (num (fun x => over 63 x l1) c p)) ∧ Below w2.heap.size w2 W ∧ W.heap[g]? = some (.cells (arr (fun i => num (fun x => over 63 x l1) i p)) 46 (0, 0))) := fun W h1 h2 => ⟨(blk_cell h1 c).trans (arr_get _ c hc2), h2, h1⟩
          go_region_held3 (fun w' => w'.cell? ⟨g, c, none⟩ = some (.int .i64 (num (fun x => over 63 x l1) c p)) ∧ Below w2.heap.size w2 w' ∧ w'.heap[g]? = some (.cells (arr (fun i => num (fun x => over 63 x l1) i p)) 46 (0, 0)))
            ((go_split_ands; (with_reducible refine HKS _ ?_ ?_) <;> (with_reducible repeat (first | assumption | refine blk_drew ?_ | refine blk_alloc ?_ _ | refine blk_below ?_ hb | refine below_drew1 ?_ | refine below_alloc ?_ _ | refine below_step ?_ hb))))
            ((go_at_call 15; (with_reducible refine (count_one kc _ _ _ T c _ _ (Kd.C_below HT.out ?kb) HTC.out (c_one _ _ _ ?kc) hco.out).mono ?_); (case kb => (with_reducible repeat (first | assumption | refine below_drew1 ?_ | refine below_alloc ?_ _))); (case kc => exact (blk_cell (blk_drew (blk_new _ _)) 0).trans rfl); rintro e w11 ⟨rfl, hb⟩))
          go_split_ands
          go_wp2
          go_roundw
          case rel => exact ⟨i + 1, by omega, by go_num, ⟨by (with_reducible repeat (first | assumption | refine blk_drew ?_ | refine blk_alloc ?_ _ | refine blk_below ?_ hb))⟩, ⟨by (with_reducible repeat (first | assumption | refine below_drew1 ?_ | refine below_alloc ?_ _ | refine below_step ?_ hb))⟩⟩
          case measure => simp [intOf]; omega
        · obtain rfl : i = 5 := by omega
          go_wp2_with (first
            | (go_at_call 25; (with_reducible refine (region_At.calls kZ _ _ T (p : Int) 0 0 0 false _ (cb_ HT HB) HTC.out hAtEnd).mono ?_); rintro e w12 ⟨rfl, hb⟩; replace BX := bb_ BX hb; replace HB := bs_ HB hb; clear hb)
            | ((with_reducible refine gate_dst (N := 14) rfl ?_); refine box_e 14 #[.int .i64 0, .int .i64 0, .int .u8 0] 26 ?_; intro gb hg w13 hbox hb; have GB := bg_ HB hg; have BK := Aside0.mk hbox; replace HB := bs_ HB hb; clear hb hbox hg; obtain ⟨hz0, hz1, hz2, hf0, hf1, hf2⟩ := c3_ BK)
            | (go_at_call 15; (with_reducible refine (count_none kA _ _ T (p : Int) _ (Kd.C_below HT.out (bh_ HB)) HTC.out hAll).mono ?_); rintro e w14 ⟨rfl, hb⟩; replace HB := bs_ HB hb; clear hb)
            | (go_at_call 3; (with_reducible refine (salvorlaw16_RegionRuns.calls kR true _ hRuns).mono ?_); rintro e w15 ⟨rfl, hb⟩; replace HB := bs_ HB hb; clear hb))
          go_ret
          exact ⟨rfl, below_step B02.out (bh_ HB)⟩
set_option maxHeartbeats 8000000 in
set_option maxRecDepth 100000 in
theorem places_long (a0 : Int) (A1 : Option Addr) (c1 : Nat) (l1 : List S40) (w : World) (hl : 30 < l1.length) (hRuns : ∃ k, salvorlaw16_RegionRuns.f k = some true) : Calls Try.prog 8 #[.int .u8 a0, .slice A1 l1.length c1] w fun e w' => e = .returned (.bool true) ∧ Below w.heap.size w w' := by
  obtain ⟨k, hRuns⟩ := hRuns
  have c5b0 : decide (30 < (l1.length : Int)) = true := decide_eq_true (by omega)
  have c5b1 : decide (30 < l1.length) = true := decide_eq_true hl
  have HB := Aside0.mk (Below.refl w.heap.size w)
  go_enter Try.func8, Try.ntmps8
  go_wp2_with (first | (go_at_call 3; (with_reducible refine (salvorlaw16_RegionRuns.calls k true _ hRuns).mono ?_); rintro e w15 ⟨rfl, hb⟩; replace HB := bs_ HB hb; clear hb))
  go_ret
  exact ⟨rfl, bh_ HB⟩
end Go.Proofs.Ytjgkfnbfjamccaa.P
