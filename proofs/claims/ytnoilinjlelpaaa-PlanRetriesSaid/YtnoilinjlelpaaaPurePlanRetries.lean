/- The pure statement of PlanRetries: bad sectors that stay bad are tried one by one, as often as there are passes. No conditions. -/
import Derived.Test.YtnoilinjlelpaaaPx0
import Derived.Test.YtnoilinjlelpaaaPx3
import Derived.Test.YtnoilinjlelpaaaPx19
import Derived.Test.YtnoilinjlelpaaaPx38
import Derived.Test.YtnoilinjlelpaaaPx48
import Derived.Test.YtnoilinjlelpaaaOpen
import Derived.Test.YtnoilinjlelpaaaRegH
import Derived.Test.YtnoilinjlelpaaaPlanF
import Derived.Test.YtnoilinjlelpaaaPurePlanRuns
namespace Go.Proofs.Ytnoilinjlelpaaa.Pure
set_option linter.unusedSimpArgs false
set_option linter.unusedVariables false
open Go.RowKit Go.Proofs.YtnoilinjlelpaaaW.PrintWords Go.Proofs.YtnoilinjlelpaaaW.PrintLast Go.Proofs.YtnoilinjlelpaaaW.PrintMore Go.Proofs.Ytnoilinjlelpaaa.P Go.Proofs.Ytnoilinjlelpaaa.Open Go.Proofs.Ytnoilinjlelpaaa.Reg

theorem retr_loop {n sec r : Int} {b : Bool} (h0 : 1 ≤ n) (h1 : n ≤ 255) (hs : sec = (n + 7) / 8) (hr : 0 ≤ r ∧ r ≤ 4) : ∀ (d : Nat) (t j P Q s : Int), 0 ≤ t → 0 ≤ j → j < sec → t * sec + j + d = sec * r → Inv b n sec t j P Q → mapD P Q s [⟨0, n, 45⟩] = true → s = statD (nextD 1 r b P Q [⟨0, n, 45⟩]).1 →
    Ev (fun k => salvorlaw18_PlanRetries.l0 k b n sec (t * sec + j) 1 r b P Q s [⟨0, n, 45⟩]) true := by
  have hsec : 1 ≤ sec ∧ sec ≤ 32 := by omega
  have hT : 0 ≤ sec * r ∧ sec * r ≤ 128 := by
    have : r = 0 ∨ r = 1 ∨ r = 2 ∨ r = 3 ∨ r = 4 := by omega
    rcases this with rfl | rfl | rfl | rfl | rfl <;> omega
  have ho : optsD 1 r = true := by unfold optsD; rw [decide_eq_true (by omega)]
  have hl := one_may h0 h1
  have hend : endOf 0 [(⟨0, n, 45⟩ : S33)] = n := by unfold endOf endOf; simp
  have hruns : Ev (fun k => (salvorlaw18_PlanRuns.f k).bind fun t => some t) true := Ev.bind (Ev.of salvorlaw18_PlanRuns.mono PlanRuns.choose_spec) (Ev.now _)
  have hw : wrap64 (sec * r) = sec * r := wrap_in (by omega) (by omega)
  intro d
  induction d with
  | zero =>
    intro t j P Q s t0 j0 j1 hd hI hm hst
    have htr : t = r ∧ j = 0 := by
      have e : t * sec + j = r * sec := by rw [Int.mul_comm r sec]; omega
      have ht : t ≤ r := by
        rcases Int.lt_or_le r t with c | c
        · have := Int.mul_le_mul_of_nonneg_right (show r + 1 ≤ t by omega) (show (0 : Int) ≤ sec by omega)
          rw [Int.add_mul] at this; omega
        · exact c
      have hr' : r ≤ t := by
        rcases Int.lt_or_le t r with c | c
        · have := Int.mul_le_mul_of_nonneg_right (show t + 1 ≤ r by omega) (show (0 : Int) ≤ sec by omega)
          rw [Int.add_mul] at this; omega
        · exact c
      have : t = r := by omega
      subst this
      exact ⟨rfl, by omega⟩
    obtain ⟨rfl, rfl⟩ := htr
    have he := end_one hr.1 hI
    have hN := Next_ev (b := b) ho hm
    rw [he] at hN hst
    have hst' : s = 43 := hst
    refine Ev.step (f := fun k => _) (fun k => by rw [salvorlaw18_PlanRetries.l0, if_neg (by rw [hw]; omega)]) ?_
    refine Ev.bind hN ?_
    simp only [BEq.rfl, Bool.and_self, if_true]
    refine ev_ite (fun _ => ?_) (fun h => absurd hst' h)
    have hc := count_ev [(⟨0, n, 45⟩ : S33)] (by simp) [45] (by simp)
    rw [if_pos hl] at hc
    refine Ev.bind hc ?_
    refine ev_ite (fun _ => hruns) (fun h => absurd ?_ h)
    simp [cntL]
    exact wrap_in (by omega) (by omega)
  | succ d ih =>
    intro t j P Q s t0 j0 j1 hd hI hm hst
    have htr : t < r := by
      rcases Int.lt_or_le t r with c | c
      · exact c
      · have := Int.mul_le_mul_of_nonneg_right c (show (0 : Int) ≤ sec by omega)
        rw [Int.mul_comm r sec] at this; omega
    have hts : 0 ≤ t * sec := Int.mul_nonneg t0 (by omega)
    obtain ⟨fr, e1, e2, e3⟩ := try_one h0 h1 hs ⟨j0, j1⟩ ⟨t0, htr⟩ hI
    have hmod : Int.tmod (t * sec + j) sec = j := by
      rw [Int.tmod_eq_emod_of_nonneg (by omega), Int.add_comm, Int.add_mul_emod_self_right, Int.emod_eq_of_lt j0 j1]
    have hx : ∀ v : Int, v = (if b = true then sec - 1 - j else j) → Ev (fun k => salvorlaw18_PlanRetries.j1 k b n sec (t * sec + j) v 1 r b P Q s [⟨0, n, 45⟩]) true := by
      intro v hv
      have hvr : 0 ≤ v ∧ v < sec := by rw [hv]; split <;> omega
      have w1 : wrap64 (v * 8) = v * 8 := wrap_in (by omega) (by omega)
      have w2 : wrap64 (n - v * 8) = n - v * 8 := wrap_in (by omega) (by omega)
      have w3 : wrap64 (t * sec + j + 1) = t * sec + j + 1 := wrap_in (by omega) (by omega)
      have hN := Next_ev (b := b) ho hm
      obtain ⟨hA, hA2, -⟩ := after_ev (b := b) (by simp) ho hm 0
      rw [e1] at hN hst hA hA2
      rw [← hv] at hN hst hA hA2
      have hmn := mn_le 8 (n - v * 8)
      have hsz : 1 ≤ mn 8 (n - v * 8) := by omega
      have hao := after_one (x := v * 8) (y := mn 8 (n - v * 8)) h0 h1 fr (by omega) hsz (by omega)
      rw [hao] at hA hA2
      have hst' : s = 45 := hst
      refine Ev.step (f := fun k => _) (fun k => by rw [salvorlaw18_PlanRetries.j1]) ?_
      refine Ev.bind hN ?_
      rw [w1, w2, w3]
      simp only [BEq.rfl, Bool.not_true, Bool.or_self, Bool.false_eq_true, if_false]
      refine ev_ite (fun _ => ?_) (fun h => absurd hst' h)
      refine Ev.bind hA ?_
      have eQ : afterQ Q (4, v * 8, mn 8 (n - v * 8), fr) = t := by
        unfold afterQ; exact e2
      have eP : afterP b P (4, v * 8, mn 8 (n - v * 8), fr) = if b = true then v * 8 else v * 8 + mn 8 (n - v * 8) := by
        unfold afterP; simp
      by_cases c : j + 1 < sec
      · have := ih t (j + 1) _ _ _ t0 (by omega) c (by omega) (.inl ⟨by omega, eQ, ?_⟩) hA2 rfl
        · rw [show t * sec + (j + 1) = t * sec + j + 1 by omega] at this
          exact this
        · rw [eP]
          cases b with
          | true => simp only [if_true] at hv ⊢; omega
          | false => simp only [Bool.false_eq_true, if_false] at hv ⊢; omega
      · have hts1 : (t + 1) * sec = t * sec + sec := by rw [Int.add_mul]; omega
        have := ih (t + 1) 0 _ _ _ (by omega) (by omega) (by omega) (by rw [hts1]; omega) (.inr (.inr ⟨rfl, by omega, by rw [eQ]; omega, ?_⟩)) hA2 rfl
        · rw [hts1, show t * sec + sec + 0 = t * sec + j + 1 by omega] at this
          exact this
        · rw [eP]
          cases b with
          | true => simp only [if_true] at hv ⊢; omega
          | false => simp only [Bool.false_eq_true, if_false] at hv ⊢; omega
    refine Ev.step (f := fun k => _) (fun k => by rw [salvorlaw18_PlanRetries.l0, if_pos (by rw [hw]; omega), if_neg (by omega), hmod, wrap_in (x := sec - 1) (by omega) (by omega), wrap_in (x := sec - 1 - j) (by omega) (by omega)]) ?_
    refine ev_ite (fun g => hx _ (by rw [if_pos g])) (fun g => hx _ (by rw [if_neg g]))

theorem PlanRetries : ∀ (x0 : Int) (x1 : Int) (x2 : Bool), (Lit.int .u8 x0).wf = true → (Lit.int .u8 x1).wf = true → ∃ k, salvorlaw18_PlanRetries.f k x0 x1 x2 = some true := by
  intro n rr b wn wr
  have hn := u8_range wn
  have hrr := u8_range wr
  refine Ev.rounds ?_
  have hr : Int.tmod rr 5 = rr % 5 := Int.tmod_eq_emod_of_nonneg hrr.1
  have hr2 : 0 ≤ rr % 5 ∧ rr % 5 ≤ 4 := by omega
  have ho : optsD 1 (rr % 5) = true := by unfold optsD; rw [decide_eq_true (by omega)]
  have hruns : Ev (fun k => (salvorlaw18_PlanRuns.f k).bind fun t => some t) true := Ev.bind (Ev.of salvorlaw18_PlanRuns.mono PlanRuns.choose_spec) (Ev.now _)
  have wN : wrap64 n = n := wrap_in (by omega) (by omega)
  have w1 : wrap64 (n + 8) = n + 8 := wrap_in (by omega) (by omega)
  have w2 : wrap64 (n + 8 - 1) = n + 8 - 1 := wrap_in (by omega) (by omega)
  have hdv : Int.tdiv (n + 8 - 1) 8 = (n + 7) / 8 := by rw [Int.tdiv_eq_ediv_of_nonneg (by omega)]; congr 1; omega
  have w3 : wrap64 ((n + 7) / 8) = (n + 7) / 8 := wrap_in (by omega) (by omega)
  have e0 : Int.tmod 0 6 = 0 := rfl
  have w4 : wrap64 0 = 0 := wrap_in (by omega) (by omega)
  have w5 : wrap64 (0 + 1) = 1 := wrap_in (by omega) (by omega)
  unfold salvorlaw18_PlanRetries.f salvorlaw18_Opts.f
  simp only [Option.bind_some, wN, w1, w2, hdv, w3, hr, e0, w4, w5, wrap_in (x := rr % 5) (by omega) (by omega)]
  by_cases c : n < 1
  · obtain rfl : n = 0 := by omega
    have hnew : region_New.f 0 = some [] := rfl
    rw [hnew]
    simp only [Option.bind_some]
    have hl : mayL 0 none [] = true := rfl
    obtain ⟨a1, a2, a3, a4⟩ := set_may hl (pos := 0) (n := 0) (st := 45) (by omega) (by omega) rfl
    refine Ev.bind a1 ?_
    have e : setM [] 0 0 45 = [] := rfl
    rw [e]
    have hB := Begin_ev (c := 1) (r := rr % 5) (b := b) (p := 0) (q := 0) (s := 63) (l := []) (by simp) ho (map_mk hl ⟨by omega, by simp [endOf]⟩ (by omega) rfl)
    have he : edgeD b [] = 0 := by unfold edgeD; split <;> rfl
    rw [he] at hB
    refine Ev.bind hB ?_
    have hx : nextD 1 (rr % 5) b 0 0 [] = (0, 0, 0, false) := by
      rcases next_spec hl 1 (rr % 5) b 0 0 (by omega) ⟨by omega, by simp [endOf]⟩ with e | ⟨kind, x, y, fr, e, k1, k4, x0, y1, y2, xy, hf, -, hz⟩
      · exact e
      · have := hz x (by omega) (by omega)
        simp [stAt] at this
    rw [hx]
    have hN := Next_ev (b := b) (s := statD 0) ho (map_mk (p := 0) (q := 0) hl ⟨by omega, by simp [endOf]⟩ (by omega) rfl)
    rw [hx] at hN
    have hs0 : ((0 : Int) + 7) / 8 = 0 := rfl
    rw [hs0]
    refine Ev.step (f := fun k => _) (fun k => by rw [salvorlaw18_PlanRetries.l0, if_neg (by rw [Int.zero_mul, w4]; decide)]) ?_
    refine Ev.bind hN ?_
    simp only [BEq.rfl, Bool.and_self, if_true]
    refine ev_ite (fun _ => ?_) (fun h => absurd rfl h)
    have hc := count_ev [] (by simp) [45] (by simp)
    rw [if_pos hl] at hc
    refine Ev.bind hc ?_
    exact ev_ite (fun _ => hruns) (fun h => absurd rfl h)
  · have hnew : region_New.f n = some [⟨0, n, 63⟩] := by
      unfold region_New.f
      rw [if_neg c, if_neg (by omega)]
    rw [hnew]
    simp only [Option.bind_some]
    have hl : mayL 0 none [(⟨0, n, 63⟩ : S33)] = true := mayL_mk rfl (by show 1 ≤ n; omega) (by show n ≤ 1099511627776 - 0; omega) rfl (by simp) rfl
    obtain ⟨a1, a2, a3, a4⟩ := set_may hl (pos := 0) (n := n) (st := 45) (by omega) (by omega) rfl
    have hone := one_may (n := n) (by omega) (by omega)
    have e : setM [(⟨0, n, 63⟩ : S33)] 0 n 45 = [⟨0, n, 45⟩] := by
      refine canon _ _ 0 none (by omega) a2 hone a3 (fun z => ?_)
      rw [a4 z, one_st]
      simp only [stAt]
      by_cases c1 : z < 0
      · rw [if_pos c1, if_neg (by omega)]; rfl
      · rw [if_neg c1]
        by_cases c2 : z < 0 + n
        · rw [if_pos c2, if_pos (by omega)]; simp only [Option.map_some]; rw [if_pos (by omega)]
        · rw [if_neg c2, if_neg (by omega)]; rfl
    rw [e] at a1
    refine Ev.bind a1 ?_
    have hend : endOf 0 [(⟨0, n, 45⟩ : S33)] = n := by unfold endOf endOf; simp
    have hB := Begin_ev (c := 1) (r := rr % 5) (b := b) (p := 0) (q := 0) (s := 63) (l := [⟨0, n, 45⟩]) (by simp) ho (map_mk hone ⟨by omega, by rw [hend]; omega⟩ (by omega) rfl)
    refine Ev.bind hB ?_
    have he := edge_range hone b
    have := retr_loop (b := b) (r := rr % 5) (sec := (n + 7) / 8) (by omega : 1 ≤ n) hn.2 rfl hr2 (((n + 7) / 8 * (rr % 5)).toNat) 0 0 (edgeD b [⟨0, n, 45⟩]) 0 (statD (nextD 1 (rr % 5) b (edgeD b [⟨0, n, 45⟩]) 0 [⟨0, n, 45⟩]).1) (by omega) (by omega) (by omega)
      (by have : 0 ≤ (n + 7) / 8 * (rr % 5) := Int.mul_nonneg (by omega) (by omega)
          omega)
      (.inr (.inl ⟨rfl, rfl, rfl, edge_one b n⟩)) (map_mk hone (by omega) (by omega) (statD_is _)) rfl
    rw [show (0 : Int) * ((n + 7) / 8) + 0 = 0 by omega] at this
    exact this
end Go.Proofs.Ytnoilinjlelpaaa.Pure
