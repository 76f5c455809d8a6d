/- The pure statement of PlanWays: forward a copy begins at the first place that is untried, backward it ends at the last one; it is as long as its sectors let it. No conditions. -/
import Derived.Test.YtnoilinjlelpaaaPx0
import Derived.Test.YtnoilinjlelpaaaPx8
import Derived.Test.YtnoilinjlelpaaaPx19
import Derived.Test.YtnoilinjlelpaaaPx38
import Derived.Test.YtnoilinjlelpaaaPx39
import Derived.Test.YtnoilinjlelpaaaOpen
import Derived.Test.YtnoilinjlelpaaaRegI
import Derived.Test.YtnoilinjlelpaaaPlanD
import Derived.Test.YtnoilinjlelpaaaPurePlanRuns
namespace Go.Proofs.Ytnoilinjlelpaaa.Pure
set_option linter.unusedSimpArgs false
set_option linter.unusedVariables false
open Go.RowKit Go.Proofs.YtnoilinjlelpaaaW.PrintWords Go.Proofs.YtnoilinjlelpaaaW.PrintLast Go.Proofs.YtnoilinjlelpaaaW.PrintMore Go.Proofs.Ytnoilinjlelpaaa.P Go.Proofs.Ytnoilinjlelpaaa.Open Go.Proofs.Ytnoilinjlelpaaa.Reg

theorem rest_kind (b : Bool) (p : Int) (l : List S33) : (hitD b l 2 42 0 (hitD b l 3 47 0 (retryD 0 b p 0 l))).1 ≠ 1 := by
  unfold hitD retryD
  repeat' split
  all_goals simp
theorem PlanWays : ∀ (x0 : Int) (x1 : List S83) (x2 : Int), (Lit.int .u8 x0).wf = true → (∀ x_ ∈ x1, WF83 x_) → (Lit.int .u8 x2).wf = true → ∃ k, salvorlaw18_PlanWays.f k x0 x1 x2 = some true := by
  intro n cs cl wn wcs wcl
  have hn := u8_range wn
  have hcl := u8_range wcl
  refine Ev.rounds ?_
  have hruns : Ev (fun k => (salvorlaw18_PlanRuns.f k).bind fun t => some t) true := Ev.bind (Ev.of salvorlaw18_PlanRuns.mono PlanRuns.choose_spec) (Ev.now _)
  unfold salvorlaw18_PlanWays.f
  refine ev_ite (fun _ => hruns) (fun hlen => ?_)
  have hsm : ∀ c ∈ cs, Small c := fun c hc => by
    have h := wcs c hc
    exact ⟨u8_range h.1, u8_range h.2.1, u8_range h.2.2⟩
  obtain ⟨l, m1, hl, he, hst⟩ := made_ev n hn.1 hn.2 cs hsm (by omega)
  have hcm : Int.tmod cl 6 = cl % 6 := Int.tmod_eq_emod_of_nonneg hcl.1
  have w1 : wrap64 n = n := wrap_in (by omega) (by omega)
  have w2 : wrap64 (n + 1) = n + 1 := wrap_in (by omega) (by omega)
  have w3 : wrap64 (0 : Int) = 0 := wrap_in (by omega) (by omega)
  have w4 : wrap64 (cl % 6) = cl % 6 := wrap_in (by omega) (by omega)
  have w5 : wrap64 (cl % 6 + 1) = cl % 6 + 1 := wrap_in (by omega) (by omega)
  have w6 : wrap64 ((cl % 6 + 1) * 8) = (cl % 6 + 1) * 8 := wrap_in (by omega) (by omega)
  have w7 : wrap64 ((cl % 6 + 1) * 8 - 8) = (cl % 6 + 1) * 8 - 8 := wrap_in (by omega) (by omega)
  have t0 : Int.tmod 0 6 = 0 := rfl
  have t5 : Int.tmod 0 5 = 0 := rfl
  have hmp : Ev (fun k => salvorlaw18_Map.f k n cs 0 0) (0, 0, 63, l) := by
    unfold salvorlaw18_Map.f
    rw [w1, w2, w3, t0, w3, Int.zero_tmod]
    refine ev_ite (fun h => by omega) (fun _ => ?_)
    exact Ev.bind m1 (Ev.now _)
  have hop : ∀ b : Bool, salvorlaw18_Opts.f cl 0 b = some (cl % 6 + 1, 0, b) := by
    intro b
    unfold salvorlaw18_Opts.f
    rw [hcm, w4, w5, t5, w3]
  have hb := mayL_end hl (by omega)
  have hm : mapD 0 0 63 l = true := map_mk hl (by omega) (by omega) rfl
  have ho : optsD (cl % 6 + 1) 0 = true := by unfold optsD; rw [decide_eq_true (by omega)]
  have hfirst := first_ev l (by omega) 63 0 (by omega)
  have hlast := last_ev l (by omega) 63 n
  rw [if_pos hl] at hfirst hlast
  refine Ev.step (f := fun k => _) (fun k => by rw [salvorlaw18_PlanWays.j0]) ?_
  refine Ev.bind hmp ?_
  rw [hop false, hop true]
  simp only [Option.bind_some]
  refine Ev.bind (Next_ev (b := false) ho hm) ?_
  refine Ev.bind (Next_ev (b := true) ho hm) ?_
  refine Ev.bind hfirst ?_
  rw [w1]
  refine Ev.bind hlast ?_
  have ef : seekD false l 63 (edgeD false l) = firstL 63 0 l := rfl
  have eb : seekD true l 63 (edgeD true l) = region_Last.g l 63 n l.length := by
    unfold seekD edgeD
    rw [if_pos rfl, if_pos rfl, he]
  have nf : nextD (cl % 6 + 1) 0 false 0 0 l = hitD false l 1 63 (cl % 6 + 1 - 1) (hitD false l 2 42 0 (hitD false l 3 47 0 (retryD 0 false 0 0 l))) := rfl
  have nb : nextD (cl % 6 + 1) 0 true 0 0 l = hitD true l 1 63 (cl % 6 + 1 - 1) (hitD true l 2 42 0 (hitD true l 3 47 0 (retryD 0 true 0 0 l))) := rfl
  have kf := rest_kind false 0 l
  have kb := rest_kind true 0 l
  unfold hitD at nf nb
  rw [ef] at nf
  rw [eb] at nb
  change nextD (cl % 6 + 1) 0 false 0 0 l = (if (firstL 63 0 l).2.2.2 = true then _ else hitD false l 2 42 0 (hitD false l 3 47 0 (retryD 0 false 0 0 l))) at nf
  change nextD (cl % 6 + 1) 0 true 0 0 l = (if (region_Last.g l 63 n l.length).2.2.2 = true then _ else hitD true l 2 42 0 (hitD true l 3 47 0 (retryD 0 true 0 0 l))) at nb
  rcases firstL_st hl (by omega) 63 0 with ⟨x, s, q1, q2, q3, q4, q5, q6, q7⟩ | ⟨q1, q2⟩
  · rcases last_st hl 63 n (by omega) with ⟨y, z, r1, r2, r3, r4, r5, r6, r7⟩ | ⟨r1, r2⟩
    · rw [q1] at nf ⊢
      rw [r1] at nb ⊢
      rw [if_pos rfl] at nf nb
      rw [nf, nb]
      simp only [bne_self_eq_false, Bool.false_eq_true, if_false]
      have m0 : 0 ≤ cl % 6 + 1 - 1 := by omega
      refine Ev.step (f := fun k => _) (fun k => by rw [salvorlaw18_PlanWays.j1, if_pos rfl, if_pos rfl, if_pos rfl, hcm, w4, w5, w6, w7]) ?_
      have hmx := mx_ge y ((y + z - 1) / 8 * 8 - (cl % 6 + 1 - 1) * 8)
      have hmn := mn_le s ((x / 8 + 1 + (cl % 6 + 1 - 1)) * 8 - x)
      simp only [cutD, if_true, Bool.false_eq_true, if_false]
      generalize mx y ((y + z - 1) / 8 * 8 - (cl % 6 + 1 - 1) * 8) = P at *
      generalize mn s ((x / 8 + 1 + (cl % 6 + 1 - 1)) * 8 - x) = Q at *
      have v1 : wrap64 (P + (y + z - P)) = P + (y + z - P) := wrap_in (by omega) (by omega)
      have v2 : wrap64 (y + z) = y + z := wrap_in (by omega) (by omega)
      have v3 : wrap64 (x + Q) = x + Q := wrap_in (by omega) (by omega)
      have v4 : wrap64 (x + s) = x + s := wrap_in (by omega) (by omega)
      have v5 : Int.tmod (x + Q) 8 = (x + Q) % 8 := Int.tmod_eq_emod_of_nonneg (by omega)
      have v6 : Int.tmod P 8 = P % 8 := Int.tmod_eq_emod_of_nonneg (by omega)
      rw [v1, v2, v3, v4, v5, v6]
      refine ev_ite (fun _ => ?_) (fun h => absurd (by omega) h)
      refine ev_ite (fun _ => ?_) (fun h => absurd (by omega) h)
      refine ev_ite (fun _ => ?_) (fun h => absurd (by omega) h)
      have hP : Ev (fun k => if P = y then (salvorlaw18_PlanRuns.f k).bind fun t => some t else if P % 8 = 0 then if y + z - P > (cl % 6 + 1) * 8 - 8 then (salvorlaw18_PlanRuns.f k).bind fun t => some t else some false else some false) true := by
        refine ev_ite (fun _ => hruns) (fun _ => ?_)
        refine ev_ite (fun _ => ?_) (fun h => absurd (by omega) h)
        exact ev_ite (fun _ => hruns) (fun h => absurd (by omega) h)
      refine ev_ite (fun _ => hP) (fun _ => ?_)
      refine ev_ite (fun _ => ?_) (fun h => absurd (by omega) h)
      refine ev_ite (fun _ => hP) (fun h => absurd (by omega) h)
    · have h1 := q6 x (by omega) (by omega)
      have hx : x < n := by
        by_cases c : x < endOf 0 l
        · omega
        · rw [stAt_out hl x (by omega)] at h1; cases h1
      exact absurd h1 (r2 x hx)
  · rcases last_st hl 63 n (by omega) with ⟨y, z, r1, r2, r3, r4, r5, r6, r7⟩ | ⟨r1, r2⟩
    · exact absurd (r6 y (by omega) (by omega)) (q2 y (by omega))
    · rw [q1] at nf ⊢
      rw [r1] at nb ⊢
      rw [if_neg (by decide)] at nf nb
      simp only [bne_self_eq_false, Bool.false_eq_true, if_false]
      rw [nf, nb]
      refine Ev.step (f := fun k => _) (fun k => by rw [salvorlaw18_PlanWays.j1, if_neg (by decide)]) ?_
      refine ev_ite (fun h => absurd h kf) (fun _ => ?_)
      exact ev_ite (fun h => absurd h kb) (fun _ => hruns)
end Go.Proofs.Ytnoilinjlelpaaa.Pure
