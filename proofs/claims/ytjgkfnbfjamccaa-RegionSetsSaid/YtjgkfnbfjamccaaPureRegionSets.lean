/- The pure statement of RegionSets: for any regions, part, status and statuses the program's and the reference's regions and counts are the same. No conditions. -/
import Derived.Test.YtjgkfnbfjamccaaPx0
import Derived.Test.YtjgkfnbfjamccaaPx7
import Derived.Test.YtjgkfnbfjamccaaPx15
import Derived.Test.YtjgkfnbfjamccaaPx16
import Derived.Test.YtjgkfnbfjamccaaPx17
import Derived.Test.YtjgkfnbfjamccaaPx18
import Derived.Test.YtjgkfnbfjamccaaPx23
import Derived.Test.YtjgkfnbfjamccaaPx24
import Derived.Test.YtjgkfnbfjamccaaPx25
import Derived.Test.YtjgkfnbfjamccaaOpen
import Derived.Test.YtjgkfnbfjamccaaRegH
import Derived.Test.YtjgkfnbfjamccaaPureRegionRuns
namespace Go.Proofs.Ytjgkfnbfjamccaa.Pure
open Go.RowKit Go.Proofs.YtjgkfnbfjamccaaW.PrintWords Go.Proofs.YtjgkfnbfjamccaaW.PrintLast Go.Proofs.YtjgkfnbfjamccaaW.PrintMore Go.Proofs.Ytjgkfnbfjamccaa.P Go.Proofs.Ytjgkfnbfjamccaa.Open Go.Proofs.Ytjgkfnbfjamccaa.Reg

theorem RegionSets : ∀ (x0 : List S26) (x1 : Int) (x2 : Int) (x3 : Int) (x4 : List Int), (∀ x_ ∈ x0, WF26 x_) → (Lit.int .i64 x1).wf = true → (Lit.int .i64 x2).wf = true → (Lit.int .u8 x3).wf = true → (∀ x_ ∈ x4, (Lit.int .u8 x_).wf = true) → ∃ k, salvorlaw16_RegionSets.f k x0 x1 x2 x3 x4 = some true := by
  intro l pos n st ss _ _ _ _ _
  refine Ev.rounds ?_
  have hruns : Ev (fun k => (salvorlaw16_RegionRuns.f k).bind fun t => some t) true := Ev.bind (Ev.of salvorlaw16_RegionRuns.mono RegionRuns.choose_spec) (Ev.now _)
  have hshut : Ev (fun k => salvorlaw16_RegionSets.j0 k l pos n st ss true) true := by
    refine Ev.step (f := fun k => (salvorlaw16_RegionRuns.f k).bind fun t => some t) (fun k => ?_) hruns
    simp only [salvorlaw16_RegionSets.j0, if_true]
  unfold salvorlaw16_RegionSets.f salvorlaw16_Few.f
  simp only [Option.bind_some]
  by_cases hf : (l.length : Int) ≤ 80
  · simp only [hf, decide_true, if_true]
    by_cases hs : (ss.length : Int) > 20
    · simp only [hs, decide_true]; exact hshut
    · simp only [hs, decide_false]
      -- the regions behind
      have hset : ∃ r : List S26, r.length ≤ 4611686018427387904 ∧ Ev (fun k => region_Set.f k l pos n st) r ∧ Ev (fun k => salvorref16_Set.f k l pos n st) r := by
        by_cases hc : mayL 0 none l = true ∧ 0 ≤ pos ∧ 0 ≤ n ∧ isS st = true
        · obtain ⟨c1, c2, c3, c4⟩ := hc
          obtain ⟨e1, e2, e3, _⟩ := set_may c1 c2 c3 c4
          have hb := mayL_end e2 (by omega)
          exact ⟨_, by omega, e1, refset_may c1 c2 c3 c4⟩
        · have hc' : mayL 0 none l = false ∨ pos < 0 ∨ n < 0 ∨ isS st = false := by
            by_cases c1 : mayL 0 none l = true
            · by_cases c2 : 0 ≤ pos
              · by_cases c3 : 0 ≤ n
                · exact .inr (.inr (.inr (Bool.eq_false_iff.mpr (fun c4 => hc ⟨c1, c2, c3, c4⟩))))
                · exact .inr (.inr (.inl (by omega)))
              · exact .inr (.inl (by omega))
            · exact .inl (Bool.eq_false_iff.mpr c1)
          exact ⟨l, by omega, set_no (by omega) hc', refset_no (by omega) hc'⟩
      obtain ⟨r, hrl, h1, h2⟩ := hset
      refine Ev.step (f := fun k => (region_Set.f k l pos n st).bind fun t230 => ((salvorref16_Set.f k l pos n st).bind fun t233 => ((salvorref16_SameRegions.f k t230 t233).bind fun t236 => (if t236 = true then ((region_Count.f k l ss).bind fun t237 => ((salvorref16_Count.f k l ss).bind fun t238 => (if t237 = t238 then ((salvorlaw16_RegionRuns.f k).bind fun t239 => (some t239)) else (some false)))) else (some false))))) (fun k => ?_) ?_
      · simp only [salvorlaw16_RegionSets.j0, Bool.false_eq_true, if_false]
      · refine Ev.bind h1 (Ev.bind h2 (Ev.bind (same_self r hrl) ?_))
        simp only [if_true]
        refine Ev.bind (count_ev l (by omega) ss (by omega)) (Ev.bind (countref_ev l (by omega) ss (by omega)) ?_)
        simp only [if_true]
        exact hruns
  · simp only [hf, decide_false, Bool.false_eq_true, if_false]
    exact hshut

end Go.Proofs.Ytjgkfnbfjamccaa.Pure
