/- The pure statement of RegionTwice: a part set twice is set once, and two parts that have nothing together may be set in either order. No conditions. -/
import Derived.Test.YtjgkfnbfjamccaaPx0
import Derived.Test.YtjgkfnbfjamccaaPx16
import Derived.Test.YtjgkfnbfjamccaaPx18
import Derived.Test.YtjgkfnbfjamccaaPx31
import Derived.Test.YtjgkfnbfjamccaaOpen
import Derived.Test.YtjgkfnbfjamccaaRegI
import Derived.Test.YtjgkfnbfjamccaaPureRegionRuns
namespace Go.Proofs.Ytjgkfnbfjamccaa.Pure
open Go.RowKit Go.Proofs.YtjgkfnbfjamccaaW.PrintWords Go.Proofs.YtjgkfnbfjamccaaW.PrintLast Go.Proofs.YtjgkfnbfjamccaaW.PrintMore Go.Proofs.Ytjgkfnbfjamccaa.P Go.Proofs.Ytjgkfnbfjamccaa.Open Go.Proofs.Ytjgkfnbfjamccaa.Reg

theorem RegionTwice : ∀ (x0 : Int) (x1 : List S40) (x2 : S40) (x3 : S40), (Lit.int .u8 x0).wf = true → (∀ x_ ∈ x1, WF40 x_) → WF40 x2 → WF40 x3 → ∃ k, salvorlaw16_RegionTwice.f k x0 x1 x2.f0 x2.f1 x2.f2 x3.f0 x3.f1 x3.f2 = some true := by
  intro n cs a b hn hcs ha hb
  have hn' := u8_range hn
  have hcs' : ∀ c ∈ cs, Small c := fun c hc => WF40_range (hcs c hc)
  have ha' : Small a := WF40_range ha
  have hb' : Small b := WF40_range hb
  have ha0 : 0 ≤ a.f2 := ha'.2.2.1
  have hb0 : 0 ≤ b.f2 := hb'.2.2.1
  refine Ev.rounds ?_
  have hruns : Ev (fun k => (salvorlaw16_RegionRuns.f k).bind fun t => some t) true := Ev.bind (Ev.of salvorlaw16_RegionRuns.mono RegionRuns.choose_spec) (Ev.now _)
  unfold salvorlaw16_RegionTwice.f
  by_cases hf : (cs.length : Int) > 30
  · simp only [hf, if_true]; exact hruns
  · simp only [hf, if_false]
    obtain ⟨r, r1, r2, r3, r4⟩ := made_ev n hn'.1 hn'.2 cs hcs' (by omega)
    obtain ⟨x1, x2, x3, x4⟩ := set_small r2 a ha'
    obtain ⟨y1, y2, y3, y4⟩ := set_small x2 a ha'
    obtain ⟨u1, u2, u3, u4⟩ := set_small x2 b hb'
    obtain ⟨w1, w2, w3, w4⟩ := set_small r2 b hb'
    obtain ⟨v1, v2, v3, v4⟩ := set_small w2 a ha'
    have hxy : setM (setM r a.f0 a.f1 (ofC a.f2)) a.f0 a.f1 (ofC a.f2) = setM r a.f0 a.f1 (ofC a.f2) := by
      refine canon _ _ 0 none (by omega) y2 x2 y3 (fun p => ?_)
      rw [y4 p, x4 p]
      cases stAt 0 r p with
      | none => rfl
      | some s =>
        simp only [Option.map_some]
        by_cases c : a.f0 ≤ p ∧ p < a.f0 + a.f1
        · rw [if_pos c]; split <;> rfl
        · rw [if_neg c, if_neg c]
    have huv : (a.f0 + a.f1 ≤ b.f0 ∨ b.f0 + b.f1 ≤ a.f0) → setM (setM r a.f0 a.f1 (ofC a.f2)) b.f0 b.f1 (ofC b.f2) = setM (setM r b.f0 b.f1 (ofC b.f2)) a.f0 a.f1 (ofC a.f2) := by
      intro hap
      refine canon _ _ 0 none (by omega) u2 v2 (by rw [u3, x3, v3, w3]) (fun p => ?_)
      rw [u4 p, x4 p, v4 p, w4 p]
      cases stAt 0 r p with
      | none => rfl
      | some s =>
        simp only [Option.map_some]
        by_cases c : a.f0 ≤ p ∧ p < a.f0 + a.f1
        · by_cases d : b.f0 ≤ p ∧ p < b.f0 + b.f1
          · omega
          · rw [if_pos c, if_neg d, if_pos c]
        · by_cases d : b.f0 ≤ p ∧ p < b.f0 + b.f1
          · rw [if_pos d, if_neg c, if_pos d]
          · simp only [c, d, if_false]
    have hbx := mayL_end x2 (by omega)
    have hbu := mayL_end u2 (by omega)
    have hend : ∀ ap : Bool, (ap = true → (a.f0 + a.f1 ≤ b.f0 ∨ b.f0 + b.f1 ≤ a.f0)) → Ev (fun k => salvorlaw16_RegionTwice.j0 k (setM r a.f0 a.f1 (ofC a.f2)) (setM (setM r a.f0 a.f1 (ofC a.f2)) a.f0 a.f1 (ofC a.f2)) (setM (setM r a.f0 a.f1 (ofC a.f2)) b.f0 b.f1 (ofC b.f2)) (setM (setM r b.f0 b.f1 (ofC b.f2)) a.f0 a.f1 (ofC a.f2)) ap) true := by
      intro ap hap
      rw [hxy]
      refine Ev.step (f := fun k => (salvorref16_SameRegions.f k (setM r a.f0 a.f1 (ofC a.f2)) (setM r a.f0 a.f1 (ofC a.f2))).bind fun t316 => if t316 = true then (if ap = true then ((salvorref16_SameRegions.f k (setM (setM r a.f0 a.f1 (ofC a.f2)) b.f0 b.f1 (ofC b.f2)) (setM (setM r b.f0 b.f1 (ofC b.f2)) a.f0 a.f1 (ofC a.f2))).bind fun t317 => (if t317 = true then ((salvorlaw16_RegionRuns.f k).bind fun t318 => (some t318)) else (some false))) else ((salvorlaw16_RegionRuns.f k).bind fun t319 => (some t319))) else (some false)) (fun k => by simp only [salvorlaw16_RegionTwice.j0]) ?_
      refine Ev.bind (same_self _ (by omega)) ?_
      simp only [if_true]
      cases ap with
      | false => simp only [Bool.false_eq_true, if_false]; exact hruns
      | true =>
        simp only [if_true]
        rw [← huv (hap rfl)]
        refine Ev.bind (same_self _ (by omega)) ?_
        simp only [if_true]
        exact hruns
    refine Ev.bind r1 ?_
    simp only [cut_of _ _ _ ha0, cut_of _ _ _ hb0, Option.bind_some]
    refine Ev.bind x1 (Ev.bind y1 (Ev.bind u1 (Ev.bind w1 (Ev.bind v1 ?_))))
    unfold Small at ha' hb'
    rw [wrap_in (x := a.f0) (by omega) (by omega), wrap_in (x := a.f1) (by omega) (by omega), wrap_in (x := b.f0) (by omega) (by omega), wrap_in (x := b.f1) (by omega) (by omega), wrap_in (x := a.f0 + a.f1) (by omega) (by omega), wrap_in (x := b.f0 + b.f1) (by omega) (by omega)]
    by_cases c : a.f0 + a.f1 ≤ b.f0
    · simp only [c, if_true]
      exact hend true (fun _ => .inl c)
    · simp only [c, if_false]
      exact hend _ (fun h => .inr (by simpa using h))

end Go.Proofs.Ytjgkfnbfjamccaa.Pure
