/- The pure statement of RegionEnds: the first region of a status from a place on, and the last one ahead of it, against every place's own status. No conditions. -/
import Derived.Test.YtjgkfnbfjamccaaPx0
import Derived.Test.YtjgkfnbfjamccaaPx37
import Derived.Test.YtjgkfnbfjamccaaOpen
import Derived.Test.YtjgkfnbfjamccaaRegI
import Derived.Test.YtjgkfnbfjamccaaRegJ
import Derived.Test.YtjgkfnbfjamccaaPureRegionRuns
namespace Go.Proofs.Ytjgkfnbfjamccaa.Pure
open Go.RowKit Go.Proofs.YtjgkfnbfjamccaaW.PrintWords Go.Proofs.YtjgkfnbfjamccaaW.PrintLast Go.Proofs.YtjgkfnbfjamccaaW.PrintMore Go.Proofs.Ytjgkfnbfjamccaa.P Go.Proofs.Ytjgkfnbfjamccaa.Open Go.Proofs.Ytjgkfnbfjamccaa.Reg

theorem ev_ite {α : Type} {c : Prop} [Decidable c] {f g : Nat → Option α} {v : α} (h1 : c → Ev f v) (h2 : ¬ c → Ev g v) : Ev (fun k => if c then f k else g k) v := by
  by_cases h : c
  · simp only [h, if_true]; exact h1 h
  · simp only [h, if_false]; exact h2 h

theorem ends_loop (r : List S26) (hr : mayL 0 none r = true) (n at' st : Int) (hn : 0 ≤ n ∧ n ≤ 255) (ha : 0 ≤ at' ∧ at' ≤ 255) (hE : endOf 0 r = n)
    (a0 a1 a2 b0 b1 b2 : Int) (o1 o2 : Bool)
    (F : o1 = true → at' ≤ a0 ∧ 0 < a1 ∧ a0 + a1 ≤ 1099511627776 ∧ a2 = st ∧ (∀ y, a0 ≤ y → y < a0 + a1 → stAt 0 r y = some st) ∧ ∀ y, at' ≤ y → stAt 0 r y = some st → a0 ≤ y)
    (F' : o1 = false → ∀ y, at' ≤ y → stAt 0 r y ≠ some st)
    (L : o2 = true → 0 ≤ b0 ∧ 0 < b1 ∧ b0 + b1 ≤ at' ∧ b2 = st ∧ (∀ y, b0 ≤ y → y < b0 + b1 → stAt 0 r y = some st) ∧ ∀ y, y < at' → stAt 0 r y = some st → y < b0 + b1)
    (L' : o2 = false → ∀ y, y < at' → stAt 0 r y ≠ some st) :
    ∀ (m : Nat) (p : Int), 0 ≤ p → p + m = n → Ev (fun k => salvorlaw16_RegionEnds.l0 k n at' r st o1 o2 p a0 a1 a2 b0 b1 b2) true := by
  have hruns : Ev (fun k => (salvorlaw16_RegionRuns.f k).bind fun t => some t) true := Ev.bind (Ev.of salvorlaw16_RegionRuns.mono RegionRuns.choose_spec) (Ev.now _)
  have hlen := mayL_end hr (by omega)
  have wn : wrap64 n = n := wrap_in (by omega) (by omega)
  have wa : wrap64 at' = at' := wrap_in (by omega) (by omega)
  have w1 : o1 = true → wrap64 (a0 + a1) = a0 + a1 := fun h => by have := F h; exact wrap_in (by omega) (by omega)
  have w2 : o2 = true → wrap64 (b0 + b1) = b0 + b1 := fun h => by have := L h; exact wrap_in (by omega) (by omega)
  intro m
  induction m with
  | zero =>
    intro p h0 h1
    refine Ev.step (f := fun k => _) (fun k => by rw [salvorlaw16_RegionEnds.l0]) ?_
    rw [wn, wa]
    refine ev_ite (fun h => by omega) (fun _ => ?_)
    refine ev_ite (fun h => ?_) (fun _ => ?_)
    · obtain ⟨f1, f2, f3, f4, f5, f6⟩ := F h
      refine ev_ite (fun _ => ?_) (fun c => absurd f1 (by omega))
      refine ev_ite (fun _ => ?_) (fun c => absurd f2 (by omega))
      refine ev_ite (fun _ => ?_) (fun c => absurd f4 c)
      refine ev_ite (fun h => ?_) (fun _ => hruns)
      obtain ⟨g1, g2, g3, g4, g5, g6⟩ := L h
      rw [w2 h]
      refine ev_ite (fun _ => ?_) (fun c => absurd g3 c)
      refine ev_ite (fun _ => ?_) (fun c => absurd g2 (by omega))
      exact ev_ite (fun _ => hruns) (fun c => absurd g4 c)
    · refine ev_ite (fun h => ?_) (fun _ => hruns)
      obtain ⟨g1, g2, g3, g4, g5, g6⟩ := L h
      rw [w2 h]
      refine ev_ite (fun _ => ?_) (fun c => absurd g3 c)
      refine ev_ite (fun _ => ?_) (fun c => absurd g2 (by omega))
      exact ev_ite (fun _ => hruns) (fun c => absurd g4 c)
  | succ m ih =>
    intro p h0 h1
    have hp : p < n := by omega
    have next := ih (p + 1) (by omega) (by omega)
    have wp : wrap64 (p + 1) = p + 1 := wrap_in (by omega) (by omega)
    obtain ⟨aa, bb, s, q1, q2, -, -⟩ := atL_st hr (by omega) p h0 (by omega)
    have f1 : o1 = true → a0 ≤ p → p < a0 + a1 → s = st := fun h x y => by
      have := (F h).2.2.2.2.1 p x y; rw [q2] at this; exact Option.some.inj this
    have f2 : o1 = true → at' ≤ p → s = st → a0 ≤ p := fun h x y => (F h).2.2.2.2.2 p x (by rw [q2, y])
    have f3 : o1 = false → at' ≤ p → s ≠ st := fun h x y => F' h p x (by rw [q2, y])
    have g1 : o2 = true → b0 ≤ p → p < b0 + b1 → s = st := fun h x y => by
      have := (L h).2.2.2.2.1 p x y; rw [q2] at this; exact Option.some.inj this
    have g2 : o2 = true → p < at' → s = st → p < b0 + b1 := fun h x y => (L h).2.2.2.2.2 p x (by rw [q2, y])
    have g3 : o2 = false → p < at' → s ≠ st := fun h x y => L' h p x (by rw [q2, y])
    have hj : ∀ v : Bool, v = false → Ev (fun k => salvorlaw16_RegionEnds.j1 k n at' r st o1 o2 p (s == st) v a0 a1 a2 b0 b1 b2) true := by
      intro v hv
      refine Ev.step (f := fun k => _) (fun k => by rw [salvorlaw16_RegionEnds.j1]) ?_
      rw [wp]
      refine ev_ite (fun h => by rw [hv] at h; cases h) (fun _ => ?_)
      refine ev_ite (fun h => ?_) (fun h => ?_)
      · rw [w1 h]
        refine ev_ite (fun c1 => ?_) (fun c1 => ?_)
        · refine ev_ite (fun c2 => ?_) (fun c2 => ?_)
          · refine ev_ite (fun c3 => ?_) (fun c3 => absurd (by simpa using f1 h c1 c2) c3)
            refine ev_ite (fun c4 => ?_) (fun _ => next)
            refine ev_ite (fun c5 => ?_) (fun _ => next)
            exact ev_ite (fun _ => next) (fun _ => next)
          · refine ev_ite (fun c4 => ?_) (fun _ => next)
            rw [w2 c4]
            refine ev_ite (fun c5 => ?_) (fun _ => next)
            refine ev_ite (fun c6 => ?_) (fun _ => next)
            exact ev_ite (fun _ => next) (fun c3 => absurd (by simpa using g1 c4 c5 c6) c3)
        · refine ev_ite (fun c4 => ?_) (fun _ => next)
          rw [w2 c4]
          refine ev_ite (fun c5 => ?_) (fun _ => next)
          refine ev_ite (fun c6 => ?_) (fun _ => next)
          exact ev_ite (fun _ => next) (fun c3 => absurd (by simpa using g1 c4 c5 c6) c3)
      · refine ev_ite (fun c4 => ?_) (fun _ => next)
        rw [w2 c4]
        refine ev_ite (fun c5 => ?_) (fun _ => next)
        refine ev_ite (fun c6 => ?_) (fun _ => next)
        exact ev_ite (fun _ => next) (fun c3 => absurd (by simpa using g1 c4 c5 c6) c3)
    refine Ev.step (f := fun k => _) (fun k => by rw [salvorlaw16_RegionEnds.l0]) ?_
    rw [wn, wa]
    refine ev_ite (fun _ => ?_) (fun h => absurd hp h)
    have hat := at_ev r (by omega) p
    rw [if_pos hr, q1] at hat
    refine Ev.bind hat ?_
    refine ev_ite (fun c1 => ?_) (fun c1 => ?_)
    · refine ev_ite (fun c2 => ?_) (fun c2 => ?_)
      · refine ev_ite (fun c3 => ?_) (fun c3 => absurd c2 (f3 (by simpa using c3) c1))
        refine ev_ite (fun c4 => absurd (f2 c3 c1 c2) (by omega)) (fun c4 => ?_)
        exact ev_ite (fun c => by omega) (fun _ => hj _ rfl)
      · exact ev_ite (fun _ => hj _ rfl) (fun _ => hj _ rfl)
    · refine ev_ite (fun c2 => ?_) (fun c2 => hj _ rfl)
      refine ev_ite (fun c3 => ?_) (fun c3 => hj _ rfl)
      refine ev_ite (fun c4 => ?_) (fun c4 => absurd c3 (g3 (by simpa using c4) c2))
      rw [w2 c4]
      have := g2 c4 c2 c3
      exact hj _ (by simp; omega)

theorem RegionEnds : ∀ (x0 : Int) (x1 : List S40) (x2 : Int) (x3 : Int), (Lit.int .u8 x0).wf = true → (∀ x_ ∈ x1, WF40 x_) → (Lit.int .u8 x2).wf = true → (Lit.int .u8 x3).wf = true → ∃ k, salvorlaw16_RegionEnds.f k x0 x1 x2 x3 = some true := by
  intro n cs at' st hn hcs ha hst
  have hn' := u8_range hn
  have ha' := u8_range ha
  have hst' := u8_range hst
  have hcs' : ∀ c ∈ cs, Small c := fun c hc => WF40_range (hcs c hc)
  refine Ev.rounds ?_
  have hruns : Ev (fun k => (salvorlaw16_RegionRuns.f k).bind fun t => some t) true := Ev.bind (Ev.of salvorlaw16_RegionRuns.mono RegionRuns.choose_spec) (Ev.now _)
  unfold salvorlaw16_RegionEnds.f
  refine ev_ite (fun _ => hruns) (fun hf => ?_)
  obtain ⟨r, r1, r2, r3, r4⟩ := made_ev n hn'.1 hn'.2 cs hcs' (by omega)
  have hlen := mayL_end r2 (by omega)
  have wa : wrap64 at' = at' := wrap_in (by omega) (by omega)
  refine Ev.bind r1 ?_
  simp only [cut_of _ _ _ hst'.1, Option.bind_some]
  rw [wa]
  have hfi := first_ev r (by omega) (ofC st) at' (by omega)
  have hla := last_ev r (by omega) (ofC st) at'
  rw [if_pos r2] at hfi hla
  refine Ev.bind hfi (Ev.bind hla ?_)
  refine ends_loop r r2 n at' (ofC st) hn' ha' r3 _ _ _ _ _ _ _ _ ?_ ?_ ?_ ?_ n.toNat 0 (by omega) (by omega)
  all_goals intro h
  · rcases firstL_st r2 (by omega) (ofC st) at' with ⟨a, b, q1, q2, q3, q4, q5, q6, q7⟩ | ⟨q1, q2⟩
    · rw [q1]; exact ⟨q2, q4, q5, rfl, q6, q7⟩
    · rw [q1] at h; cases h
  · rcases firstL_st r2 (by omega) (ofC st) at' with ⟨a, b, q1, q2, q3, q4, q5, q6, q7⟩ | ⟨q1, q2⟩
    · rw [q1] at h; cases h
    · exact q2
  · rcases last_st r2 (ofC st) at' (by omega) with ⟨a, b, q1, q2, q3, q4, q5, q6, q7⟩ | ⟨q1, q2⟩
    · rw [q1]; exact ⟨q2, q3, q4, rfl, q6, q7⟩
    · rw [q1] at h; cases h
  · rcases last_st r2 (ofC st) at' (by omega) with ⟨a, b, q1, q2, q3, q4, q5, q6, q7⟩ | ⟨q1, q2⟩
    · rw [q1] at h; cases h
    · exact q2

end Go.Proofs.Ytjgkfnbfjamccaa.Pure
