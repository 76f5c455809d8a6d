/- The pure statement of PlanOrder: copying first, then trimming, then scraping, then what is bad; the status tells which. No conditions. -/
import Derived.Test.YtnoilinjlelpaaaPx0
import Derived.Test.YtnoilinjlelpaaaPx19
import Derived.Test.YtnoilinjlelpaaaPx45
import Derived.Test.YtnoilinjlelpaaaPx47
import Derived.Test.YtnoilinjlelpaaaOpen
import Derived.Test.YtnoilinjlelpaaaPlanD
import Derived.Test.YtnoilinjlelpaaaPurePlanRuns
namespace Go.Proofs.Ytnoilinjlelpaaa.Pure
open Go.RowKit Go.Proofs.YtnoilinjlelpaaaW.PrintWords Go.Proofs.YtnoilinjlelpaaaW.PrintLast Go.Proofs.YtnoilinjlelpaaaW.PrintMore Go.Proofs.Ytnoilinjlelpaaa.P Go.Proofs.Ytnoilinjlelpaaa.Open Go.Proofs.Ytnoilinjlelpaaa.Reg

theorem PlanOrder : ∀ (x0 : S23) (x1 : S26), WF23 x0 → WF26 x1 → ∃ k, salvorlaw18_PlanOrder.f k x0.f0 x0.f1 x0.f2 x1.f0 x1.f1 x1.f2 x1.f3 = some true := by
  intro o m _ _
  obtain ⟨c, r, b⟩ := o
  obtain ⟨p, q, s, l⟩ := m
  show ∃ k, salvorlaw18_PlanOrder.f k c r b p q s l = some true
  refine Ev.rounds ?_
  have hruns : Ev (fun k => (salvorlaw18_PlanRuns.f k).bind fun t => some t) true := Ev.bind (Ev.of salvorlaw18_PlanRuns.mono PlanRuns.choose_spec) (Ev.now _)
  have hj0 : Ev (fun k => salvorlaw18_PlanOrder.j0 k true c r b p q s l) true := Ev.step (f := fun k => _) (fun k => by rw [salvorlaw18_PlanOrder.j0, if_pos rfl]) hruns
  unfold salvorlaw18_PlanOrder.f
  simp only [salvorlaw16_Few.f, opts_eq, Option.bind_some, decide_eq_true_eq]
  refine ev_ite (fun hfew => ?_) (fun _ => hj0)
  cases ho : optsD c r with
  | false => simp only [Bool.false_eq_true, if_false]; exact hj0
  | true =>
    simp only [if_true]
    refine Ev.bind (mapmay_ev p q s l (by omega)) ?_
    cases hm : mapD p q s l with
    | false => exact hj0
    | true =>
      obtain ⟨hl, h2, h3, h4⟩ := mapD_spec hm
      obtain ⟨h5, h6⟩ := optsD_spec ho
      have he := edge_range hl b
      have hw : wrap64 (q + 1) = q + 1 := wrap_in (by omega) (by omega)
      have hcnt : ∀ ss : List Int, ss.length ≤ 10 → Ev (fun k => region_Count.f k l ss) (cntL ss 0 l) := by
        intro ss hs
        have := count_ev l (by omega) ss (by omega)
        rwa [if_pos hl] at this
      have hend := end_ev l (by omega)
      rw [if_pos hl] at hend
      have hmb : mapD (edgeD b l) 0 (statD (nextD c r b (edgeD b l) 0 l).1) l = true := map_mk hl (by omega) (by omega) (statD_is _)
      -- what is next, by the statuses
      have kind : ∀ pos pass : Int, (nextD c r b pos pass l).1 = if (seekD b l 63 (edgeD b l)).2.2.2 = true then 1 else if (seekD b l 42 (edgeD b l)).2.2.2 = true then 2 else if (seekD b l 47 (edgeD b l)).2.2.2 = true then 3 else (retryD r b pos pass l).1 := by
        intro pos pass
        unfold nextD hitD
        repeat' split
        all_goals rfl
      have none0 : (nextD c r b (edgeD b l) 0 l).1 = 0 ↔ ¬ has l 63 ∧ ¬ has l 42 ∧ ¬ has l 47 ∧ (r ≤ 0 ∨ ¬ has l 45) := by
        rw [kind]
        by_cases a1 : has l 63
        · rw [if_pos ((seek_has hl b 63).2 a1)]; simp [a1]
        rw [if_neg (fun h => a1 ((seek_has hl b 63).1 h))]
        by_cases a2 : has l 42
        · rw [if_pos ((seek_has hl b 42).2 a2)]; simp [a2]
        rw [if_neg (fun h => a2 ((seek_has hl b 42).1 h))]
        by_cases a3 : has l 47
        · rw [if_pos ((seek_has hl b 47).2 a3)]; simp [a3]
        rw [if_neg (fun h => a3 ((seek_has hl b 47).1 h))]
        unfold retryD
        by_cases a4 : (0 : Int) ≥ r
        · rw [if_pos a4]; simp only [true_iff]; exact ⟨a1, a2, a3, .inl (by omega)⟩
        rw [if_neg a4]
        by_cases a5 : has l 45
        · rw [if_pos ((seek_has hl b 45).2 a5)]
          simp only [a5, not_true, or_false]
          constructor
          · intro h; cases h
          · intro h; omega
        · have : ¬ (seekD b l 45 (edgeD b l)).2.2.2 = true := fun h => a5 ((seek_has hl b 45).1 h)
          rw [if_neg this]
          have e0 : (if (0 : Int) + 1 < r then (if (seekD b l 45 (edgeD b l)).2.2.2 = true then (4, (cutD b (seekD b l 45 (edgeD b l)).1 (seekD b l 45 (edgeD b l)).2.1 0).1, (cutD b (seekD b l 45 (edgeD b l)).1 (seekD b l 45 (edgeD b l)).2.1 0).2, true) else ((0 : Int), (0 : Int), (0 : Int), false)) else (0, 0, 0, false)).1 = 0 := by
            rw [if_neg this]; split <;> rfl
          rw [e0]
          simp only [true_iff]
          exact ⟨a1, a2, a3, .inr a5⟩
      -- the last test
      have hj4 : ∀ (x6 : Int) (n1 n2 : Int), (nextD c r b p q l).1 = x6 → ∀ a1 a2 : Int,
          Ev (fun k => salvorlaw18_PlanOrder.j4 k x6 (statD (nextD c r b (edgeD b l) 0 l).1) c r b p q s l (nextD c r b p q l).1 a1 a2 (edgeD b l) 0 (statD (nextD c r b (edgeD b l) 0 l).1) l (nextD c r b (edgeD b l) 0 l).1 n1 n2) true := by
        intro x6 n1 n2 hx a1 a2
        refine Ev.step (f := fun k => _) (fun k => by rw [salvorlaw18_PlanOrder.j4]) ?_
        refine ev_ite (fun _ => ?_) (fun g => absurd hx g)
        refine ev_ite (fun _ => ?_) (fun g => absurd rfl g)
        refine ev_ite (fun _ => ?_) (fun g => absurd rfl g)
        refine Ev.bind (hcnt [43] (by decide)) (Ev.bind hend ?_)
        have all43 := cnt_all hl [43] (by simp)
        have all435 := cnt_all hl [43, 45] (by simp)
        refine ev_ite (fun g => ?_) (fun g => ?_)
        · have hn : (nextD c r b (edgeD b l) 0 l).1 = 0 := none0.2 ⟨fun h => by have := all43.1 g 63 h; simp at this, fun h => by have := all43.1 g 42 h; simp at this, fun h => by have := all43.1 g 47 h; simp at this, .inr fun h => by have := all43.1 g 45 h; simp at this⟩
          rw [hn]; simp only [BEq.rfl, if_true]; exact hruns
        · refine ev_ite (fun g2 => ?_) (fun g2 => ?_)
          · refine Ev.bind (hcnt [43, 45] (by decide)) (Ev.bind hend ?_)
            have : ((nextD c r b (edgeD b l) 0 l).1 == 0) = (cntL [43, 45] 0 l == endOf 0 l) := by
              rw [Bool.eq_iff_iff, beq_iff_eq, beq_iff_eq, none0, all435]
              constructor
              · rintro ⟨b1, b2, b3, -⟩ s' hs'
                have hi := has_is hl hs'
                simp only [isS, Bool.or_eq_true, beq_iff_eq] at hi
                rcases hi with (((hi | hi) | hi) | hi) | hi
                · exact absurd (hi ▸ hs') b1
                · exact absurd (hi ▸ hs') b2
                · exact absurd (hi ▸ hs') b3
                · subst hi; simp
                · subst hi; simp
              · intro h
                exact ⟨fun h1 => by have := h _ h1; simp at this, fun h1 => by have := h _ h1; simp at this, fun h1 => by have := h _ h1; simp at this, .inl (by omega)⟩
            rw [this]; simp only [BEq.rfl, if_true]; exact hruns
          · have hn : ¬ (nextD c r b (edgeD b l) 0 l).1 = 0 := by
              intro h
              obtain ⟨b1, b2, b3, b4⟩ := none0.1 h
              refine g (all43.2 fun s' hs' => ?_)
              have hi := has_is hl hs'
              simp only [isS, Bool.or_eq_true, beq_iff_eq] at hi
              rcases hi with (((hi | hi) | hi) | hi) | hi
              · exact absurd (hi ▸ hs') b1
              · exact absurd (hi ▸ hs') b2
              · exact absurd (hi ▸ hs') b3
              · rcases b4 with b4 | b4
                · omega
                · exact absurd (hi ▸ hs') b4
              · subst hi; simp
            rw [show ((nextD c r b (edgeD b l) 0 l).1 == 0) = false from by simpa using hn]
            simp only [BEq.rfl, if_true]; exact hruns
      have hj2 : ∀ x6 : Int, ((nextD c r b p q l).1 = x6 ∨ x6 = 4 ∧ (nextD c r b p q l).1 = 0 ∧ ¬ q + 1 < r) → ∀ a1 a2 : Int,
          Ev (fun k => salvorlaw18_PlanOrder.j2 k x6 c r b p q s l (nextD c r b p q l).1 a1 a2) true := by
        intro x6 hx a1 a2
        refine Ev.step (f := fun k => _) (fun k => by rw [salvorlaw18_PlanOrder.j2]) ?_
        refine Ev.bind (Begin_ev (by omega) ho hm) ?_
        refine Ev.bind (Next_ev ho hmb) ?_
        simp only [statusOf_eq, Option.bind_some]
        refine ev_ite (fun g => ?_) (fun g => ?_)
        · by_cases z : (nextD c r b p q l).1 = 0
          · have hq : ¬ q + 1 < r := by
              rcases hx with hx | hx
              · omega
              · exact hx.2.2
            refine Ev.step (f := fun k => _) (fun k => by rw [salvorlaw18_PlanOrder.j3, if_pos (by simpa using z), hw, if_neg hq]) ?_
            exact hj4 0 _ _ z a1 a2
          · have hz : (nextD c r b p q l).1 = x6 := by
              rcases hx with hx | hx
              · exact hx
              · exact absurd hx.2.1 z
            refine Ev.step (f := fun k => _) (fun k => by rw [salvorlaw18_PlanOrder.j3, if_neg (by simpa using z)]) ?_
            exact hj4 x6 _ _ hz a1 a2
        · have hz : (nextD c r b p q l).1 = x6 := by
            rcases hx with hx | hx
            · exact hx
            · exact absurd hx.1 g
          refine Ev.step (f := fun k => _) (fun k => by rw [salvorlaw18_PlanOrder.j3, if_neg (by decide)]) ?_
          exact hj4 x6 _ _ hz a1 a2
      refine Ev.step (f := fun k => _) (fun k => by rw [salvorlaw18_PlanOrder.j0, if_neg (by decide)]) ?_
      refine Ev.bind (Next_ev ho hm) ?_
      refine Ev.bind (hcnt [63] (by decide)) ?_
      have hk := kind p q
      refine ev_ite (fun g => ?_) (fun g => ?_)
      · rw [if_pos ((seek_has hl b 63).2 ((cnt_has hl 63).1 g))] at hk
        exact hj2 1 (.inl hk) _ _
      rw [if_neg (fun h => g ((cnt_has hl 63).2 ((seek_has hl b 63).1 h)))] at hk
      refine Ev.bind (hcnt [42] (by decide)) ?_
      refine ev_ite (fun g => ?_) (fun g => ?_)
      · rw [if_pos ((seek_has hl b 42).2 ((cnt_has hl 42).1 g))] at hk
        exact hj2 2 (.inl hk) _ _
      rw [if_neg (fun h => g ((cnt_has hl 42).2 ((seek_has hl b 42).1 h)))] at hk
      refine Ev.bind (hcnt [47] (by decide)) ?_
      refine ev_ite (fun g => ?_) (fun g => ?_)
      · rw [if_pos ((seek_has hl b 47).2 ((cnt_has hl 47).1 g))] at hk
        exact hj2 3 (.inl hk) _ _
      rw [if_neg (fun h => g ((cnt_has hl 47).2 ((seek_has hl b 47).1 h)))] at hk
      refine Ev.bind (hcnt [45] (by decide)) ?_
      unfold retryD at hk
      refine ev_ite (fun g => ?_) (fun g => ?_)
      · have h45 := (cnt_has hl 45).1 g
        by_cases hq : q < r
        · rw [decide_eq_true hq]
          refine Ev.step (f := fun k => _) (fun k => by rw [salvorlaw18_PlanOrder.j1, if_pos rfl]) ?_
          refine hj2 4 ?_ _ _
          rw [if_neg (by omega), if_pos ((seek_has hl b 45).2 h45)] at hk
          by_cases h1 : (seekD b l 45 p).2.2.2 = true
          · rw [if_pos h1] at hk; exact .inl hk
          · rw [if_neg h1] at hk
            by_cases h7 : q + 1 < r
            · rw [if_pos h7] at hk; exact .inl hk
            · rw [if_neg h7] at hk; exact .inr ⟨rfl, hk, h7⟩
        · rw [decide_eq_false hq]
          refine Ev.step (f := fun k => _) (fun k => by rw [salvorlaw18_PlanOrder.j1, if_neg (by decide)]) ?_
          rw [if_pos (by omega)] at hk
          exact hj2 0 (.inl hk) _ _
      · have h45 : ¬ has l 45 := fun h => g ((cnt_has hl 45).2 h)
        refine Ev.step (f := fun k => _) (fun k => by rw [salvorlaw18_PlanOrder.j1, if_neg (by decide)]) ?_
        refine hj2 0 (.inl ?_) _ _
        rw [hk]
        rw [if_neg (fun h => h45 (has_seek hl b 45 p (by omega) h)), if_neg (fun h => h45 ((seek_has hl b 45).1 h))]
        repeat' split
        all_goals rfl

end Go.Proofs.Ytnoilinjlelpaaa.Pure
