/- What a map is behind an act. No conditions beyond those that the lemmas name. -/
import Derived.Test.YtnoilinjlelpaaaPx0
import Derived.Test.YtnoilinjlelpaaaPx17
import Derived.Test.YtnoilinjlelpaaaPx18
import Derived.Test.YtnoilinjlelpaaaPlanD
namespace Go.Proofs.Ytnoilinjlelpaaa.Reg
set_option linter.unusedSimpArgs false
set_option linter.unusedVariables false
open Go.RowKit Go.Proofs.YtnoilinjlelpaaaW.PrintWords Go.Proofs.YtnoilinjlelpaaaW.PrintLast Go.Proofs.YtnoilinjlelpaaaW.PrintMore Go.Proofs.Ytnoilinjlelpaaa.P

theorem cut_spec (b : Bool) {p n more : Int} (_hp : 0 ≤ p) (hn : 0 < n) (hm : 0 ≤ more) : p ≤ (cutD b p n more).1 ∧ 1 ≤ (cutD b p n more).2 ∧ (cutD b p n more).1 + (cutD b p n more).2 ≤ p + n ∧ (cutD b p n more).2 ≤ more * 8 + 8 := by
  unfold cutD
  have hmx := mx_ge p ((p + n - 1) / 8 * 8 - more * 8)
  have hmn := mn_le n ((p / 8 + 1 + more) * 8 - p)
  cases b with
  | true => simp only [if_true]; omega
  | false => simp only [Bool.false_eq_true, if_false]; omega
/-- An act: none, or places of one status, in the map. -/
theorem next_spec {l : List S33} (hl : mayL 0 none l = true) (c r : Int) (b : Bool) (p q : Int) (hc : 1 ≤ c ∧ c ≤ 512) (hp : 0 ≤ p ∧ p ≤ endOf 0 l) :
    nextD c r b p q l = (0, 0, 0, false) ∨ ∃ kind x y fr, nextD c r b p q l = (kind, x, y, fr) ∧ 1 ≤ kind ∧ kind ≤ 4 ∧ 0 ≤ x ∧ 1 ≤ y ∧ y ≤ 4096 ∧ x + y ≤ endOf 0 l ∧ (fr = true → kind = 4 ∧ q + 1 < r) ∧ (kind = 4 → q < r) ∧ ∀ z, x ≤ z → z < x + y → stAt 0 l z = some (statD kind) := by
  have he := edge_range hl b
  have inmap : ∀ (x n st : Int), 0 < n → (∀ y, x ≤ y → y < x + n → stAt 0 l y = some st) → x + n ≤ endOf 0 l := by
    intro x n st hn h
    have := h (x + n - 1) (by omega) (by omega)
    by_cases c : x + n - 1 < endOf 0 l
    · omega
    · rw [stAt_out hl (x + n - 1) (by omega)] at this; cases this
  have hhit : ∀ (kd st more : Int) (R : Int × Int × Int × Bool), st = statD kd → 1 ≤ kd → kd ≤ 3 → 0 ≤ more → more ≤ 511 →
      (R = (0, 0, 0, false) ∨ ∃ kind x y fr, R = (kind, x, y, fr) ∧ 1 ≤ kind ∧ kind ≤ 4 ∧ 0 ≤ x ∧ 1 ≤ y ∧ y ≤ 4096 ∧ x + y ≤ endOf 0 l ∧ (fr = true → kind = 4 ∧ q + 1 < r) ∧ (kind = 4 → q < r) ∧ ∀ z, x ≤ z → z < x + y → stAt 0 l z = some (statD kind)) →
      (hitD b l kd st more R = (0, 0, 0, false) ∨ ∃ kind x y fr, hitD b l kd st more R = (kind, x, y, fr) ∧ 1 ≤ kind ∧ kind ≤ 4 ∧ 0 ≤ x ∧ 1 ≤ y ∧ y ≤ 4096 ∧ x + y ≤ endOf 0 l ∧ (fr = true → kind = 4 ∧ q + 1 < r) ∧ (kind = 4 → q < r) ∧ ∀ z, x ≤ z → z < x + y → stAt 0 l z = some (statD kind)) := by
    intro kd st more R hst h1 h3 m0 m1 hR
    unfold hitD
    rcases seek_st hl b st (edgeD b l) (by omega) with ⟨x, n, e1, e2, e3, e4, e5, -⟩ | ⟨e1, -⟩
    · rw [e1, if_pos rfl]
      obtain ⟨u1, u2, u3, u4⟩ := cut_spec b (more := more) e2 e3 m0
      have := inmap x n st e3 e5
      refine .inr ⟨kd, (cutD b x n more).1, (cutD b x n more).2, false, rfl, h1, by omega, by omega, u2, by omega, by omega, fun h => (by cases h), fun h => by omega, fun z h1 h2 => ?_⟩
      rw [← hst]
      exact e5 z (by omega) (by omega)
    · rw [e1, if_neg (by decide)]
      exact hR
  unfold nextD
  refine hhit 1 63 (c - 1) _ rfl (by omega) (by omega) (by omega) (by omega) ?_
  refine hhit 2 42 0 _ rfl (by omega) (by omega) (by omega) (by omega) ?_
  refine hhit 3 47 0 _ rfl (by omega) (by omega) (by omega) (by omega) ?_
  unfold retryD
  by_cases a1 : q ≥ r
  · rw [if_pos a1]; exact .inl rfl
  rw [if_neg a1]
  rcases seek_st hl b 45 p (by omega) with ⟨x, n, e1, e2, e3, e4, e5, -⟩ | ⟨e1, -⟩
  · rw [e1, if_pos rfl]
    obtain ⟨u1, u2, u3, u4⟩ := cut_spec b (more := 0) e2 e3 (by omega)
    have := inmap x n 45 e3 e5
    exact .inr ⟨4, (cutD b x n 0).1, (cutD b x n 0).2, false, rfl, by omega, by omega, by omega, u2, by omega, by omega, fun h => (by cases h), fun _ => by omega, fun z h1 h2 => e5 z (by omega) (by omega)⟩
  · rw [e1, if_neg (by decide)]
    by_cases a2 : q + 1 < r
    · rw [if_pos a2]
      rcases seek_st hl b 45 (edgeD b l) (by omega) with ⟨x, n, e1, e2, e3, e4, e5, -⟩ | ⟨e1, -⟩
      · rw [e1, if_pos rfl]
        obtain ⟨u1, u2, u3, u4⟩ := cut_spec b (more := 0) e2 e3 (by omega)
        have := inmap x n 45 e3 e5
        exact .inr ⟨4, (cutD b x n 0).1, (cutD b x n 0).2, true, rfl, by omega, by omega, by omega, u2, by omega, by omega, fun _ => ⟨rfl, a2⟩, fun _ => by omega, fun z h1 h2 => e5 z (by omega) (by omega)⟩
      · rw [e1, if_neg (by decide)]; exact .inl rfl
    · rw [if_neg a2]; exact .inl rfl

/-- The regions behind an act. -/
def doneD (l : List S33) (kind x y got : Int) : List S33 :=
  if kind = 1 then setM (setM l x got 43) (x + got) (y - got) 42
  else if got = y then setM l x y 43
  else if kind = 2 then setM (setM l (atL x l).1 (atL x l).2.1 47) x y 45
  else setM l x y 45
theorem done_ev {l : List S33} (hl : mayL 0 none l = true) (kind x y got : Int) (hx : 0 ≤ x) (hy : 1 ≤ y) (hxy : x + y ≤ endOf 0 l) (hg : 0 ≤ got ∧ got ≤ y) :
    Ev (fun k => plan_done.f k l kind x y got) (doneD l kind x y got) ∧ mayL 0 none (doneD l kind x y got) = true ∧ endOf 0 (doneD l kind x y got) = endOf 0 l := by
  have hlen := mayL_end hl (by omega)
  have w1 : wrap64 (x + got) = x + got := wrap_in (by omega) (by omega)
  have w2 : wrap64 (y - got) = y - got := wrap_in (by omega) (by omega)
  unfold plan_done.f doneD
  by_cases k1 : kind = 1
  · rw [if_pos k1]
    obtain ⟨a1, a2, a3, a4⟩ := set_may hl (pos := x) (n := got) (st := 43) hx hg.1 rfl
    obtain ⟨b1, b2, b3, b4⟩ := set_may a2 (pos := x + got) (n := y - got) (st := 42) (by omega) (by omega) rfl
    refine ⟨?_, b2, b3.trans a3⟩
    simp only [k1, if_true, w1, w2]
    exact Ev.bind a1 (Ev.bind b1 (Ev.now _))
  · rw [if_neg k1]
    simp only [k1, if_false]
    by_cases g1 : got = y
    · rw [if_pos g1]
      simp only [g1, if_true]
      obtain ⟨a1, a2, a3, a4⟩ := set_may hl (pos := x) (n := y) (st := 43) hx (by omega) rfl
      exact ⟨Ev.bind a1 (Ev.now _), a2, a3⟩
    · rw [if_neg g1]
      simp only [g1, if_false]
      by_cases k2 : kind = 2
      · rw [if_pos k2]
        simp only [k2, if_true]
        obtain ⟨ra, rb, rs, q1, q2, q3, q4⟩ := atL_st hl (by omega) x hx (by omega)
        have hat := at_ev l (by omega) x
        rw [if_pos hl] at hat
        have hra : 0 ≤ ra := by
          have : ∀ (t : List S33) (e : Int) (p : Option Int), mayL e p t = true → 0 ≤ e → e ≤ 1099511627776 → 0 ≤ (atL x t).1 ∧ 0 ≤ (atL x t).2.1 := by
            intro t
            induction t with
            | nil => intro e p _ _ _; exact ⟨Int.le_refl _, Int.le_refl _⟩
            | cons r t ih =>
              intro e p hm h0 h1
              obtain ⟨g1, g2, g3, g4, g5, g6⟩ := mayL_cons hm
              simp only [atL]
              split
              · exact ⟨(by omega : 0 ≤ r.f0), (by omega : 0 ≤ r.f1)⟩
              · exact ih _ _ g6 (by omega) (by omega)
          have := this l 0 none hl (by omega) (by omega)
          rw [q1] at this
          exact this.1
        rw [q1] at hat ⊢
        obtain ⟨a1, a2, a3, a4⟩ := set_may hl (pos := ra) (n := rb) (st := 47) hra (by omega) rfl
        obtain ⟨b1, b2, b3, b4⟩ := set_may a2 (pos := x) (n := y) (st := 45) hx (by omega) rfl
        exact ⟨Ev.bind hat (Ev.bind a1 (Ev.bind b1 (Ev.now _))), b2, b3.trans a3⟩
      · rw [if_neg k2]
        simp only [k2, if_false]
        obtain ⟨a1, a2, a3, a4⟩ := set_may hl (pos := x) (n := y) (st := 45) hx (by omega) rfl
        exact ⟨Ev.bind a1 (Ev.now _), a2, a3⟩
/-- The map behind an act. -/
def afterL (l : List S33) (a : Int × Int × Int × Bool) (got : Int) : List S33 := if a.1 = 0 then l else doneD l a.1 a.2.1 a.2.2.1 (mn (mx got 0) a.2.2.1)
def afterP (b : Bool) (p : Int) (a : Int × Int × Int × Bool) : Int := if a.1 = 4 then (if b = true then a.2.1 else a.2.1 + a.2.2.1) else p
def afterQ (q : Int) (a : Int × Int × Int × Bool) : Int := if a.2.2.2 = true then q + 1 else q
theorem after_ev {c r : Int} {b : Bool} {p q s : Int} {l : List S33} (hlen : l.length ≤ 1000000) (ho : optsD c r = true) (hm : mapD p q s l = true) (got : Int) :
    let a := nextD c r b p q l
    Ev (fun k => plan_After.f k c r b p q s l got) (afterP b p a, afterQ q a, statD (nextD c r b (afterP b p a) (afterQ q a) (afterL l a got)).1, afterL l a got) ∧
    mapD (afterP b p a) (afterQ q a) (statD (nextD c r b (afterP b p a) (afterQ q a) (afterL l a got)).1) (afterL l a got) = true ∧ endOf 0 (afterL l a got) = endOf 0 l := by
  obtain ⟨hl, h2, h3, h4⟩ := mapD_spec hm
  obtain ⟨h5, h6⟩ := optsD_spec ho
  have hend := mayL_end hl (by omega)
  have key : mayL 0 none (afterL l (nextD c r b p q l) got) = true ∧ endOf 0 (afterL l (nextD c r b p q l) got) = endOf 0 l ∧ (0 ≤ afterP b p (nextD c r b p q l) ∧ afterP b p (nextD c r b p q l) ≤ endOf 0 l) ∧ (0 ≤ afterQ q (nextD c r b p q l) ∧ afterQ q (nextD c r b p q l) ≤ 20) ∧
      Ev (fun k => plan_After.j0 k got false c r b p q s l) (afterP b p (nextD c r b p q l), afterQ q (nextD c r b p q l), statD (nextD c r b (afterP b p (nextD c r b p q l)) (afterQ q (nextD c r b p q l)) (afterL l (nextD c r b p q l) got)).1, afterL l (nextD c r b p q l) got) := by
    have hj1 : ∀ (l' : List S33) (kind x y : Int) (fr : Bool), mayL 0 none l' = true → endOf 0 l' = endOf 0 l → 0 ≤ x → 0 ≤ y → x + y ≤ endOf 0 l → (fr = true → q + 1 < r) → 
        (0 ≤ afterP b p (kind, x, y, fr) ∧ afterP b p (kind, x, y, fr) ≤ endOf 0 l) ∧ (0 ≤ afterQ q (kind, x, y, fr) ∧ afterQ q (kind, x, y, fr) ≤ 20) ∧
        Ev (fun k => plan_After.j1 k fr c r b p q s l' kind x y) (afterP b p (kind, x, y, fr), afterQ q (kind, x, y, fr), statD (nextD c r b (afterP b p (kind, x, y, fr)) (afterQ q (kind, x, y, fr)) l').1, l') := by
      intro l' kind x y fr hl' he' hx hy hxy hfr
      have hw : wrap64 (q + 1) = q + 1 := wrap_in (by omega) (by omega)
      have hw2 : wrap64 (x + y) = x + y := wrap_in (by omega) (by omega)
      have hq' : 0 ≤ afterQ q (kind, x, y, fr) ∧ afterQ q (kind, x, y, fr) ≤ 20 := by
        unfold afterQ
        cases fr with
        | true => have := hfr rfl; simp only [if_true]; omega
        | false => simp only [Bool.false_eq_true, if_false]; omega
      have hp' : 0 ≤ afterP b p (kind, x, y, fr) ∧ afterP b p (kind, x, y, fr) ≤ endOf 0 l := by
        unfold afterP
        simp only
        split
        · split <;> omega
        · omega
      refine ⟨hp', hq', ?_⟩
      have hmm : mapD (afterP b p (kind, x, y, fr)) (afterQ q (kind, x, y, fr)) s l' = true := map_mk hl' (by omega) hq' h4
      have hst := status_ev (b := b) ho hmm
      refine Ev.step (f := fun k => _) (fun k => by rw [plan_After.j1]) ?_
      rw [hw, hw2]
      unfold afterP afterQ at hst ⊢
      simp only at hst ⊢
      refine ev_ite (fun g1 => ?_) (fun g1 => ?_)
      · refine ev_ite (fun g2 => ?_) (fun g2 => ?_)
        · refine ev_ite (fun g3 => ?_) (fun g3 => ?_)
          · simp only [g1, g2, g3, if_true] at hst ⊢; exact Ev.bind hst (Ev.now _)
          · simp only [g1, g2, g3, if_true, if_false] at hst ⊢; exact Ev.bind hst (Ev.now _)
        · refine ev_ite (fun g3 => ?_) (fun g3 => ?_)
          · simp only [g1, g2, g3, if_true, if_false] at hst ⊢; exact Ev.bind hst (Ev.now _)
          · simp only [g1, g2, g3, if_true, if_false] at hst ⊢; exact Ev.bind hst (Ev.now _)
      · refine ev_ite (fun g3 => ?_) (fun g3 => ?_)
        · simp only [g1, g3, if_true, if_false] at hst ⊢; exact Ev.bind hst (Ev.now _)
        · simp only [g1, g3, if_true, if_false] at hst ⊢; exact Ev.bind hst (Ev.now _)
    have hn := nextS_ev (b := b) ho hm
    rcases next_spec hl c r b p q h5 h2 with e | ⟨kind, x, y, fr, e, k1, k4, x0, y1, y2, xy, hf, -, -⟩
    · rw [e] at hn ⊢
      have hL : afterL l (0, 0, 0, false) got = l := rfl
      rw [hL]
      obtain ⟨r1, r2, r3⟩ := hj1 l 0 0 0 false hl rfl (by omega) (by omega) (by omega) (fun h => by cases h)
      refine ⟨hl, rfl, r1, r2, ?_⟩
      refine Ev.step (f := fun k => _) (fun k => by rw [plan_After.j0, if_neg (by decide)]) ?_
      refine Ev.bind hn ?_
      simp only [if_true]
      exact r3
    · rw [e] at hn ⊢
      have hmx := mx_ge got 0
      have hmn := mn_le (mx got 0) y
      have hL : afterL l (kind, x, y, fr) got = doneD l kind x y (mn (mx got 0) y) := by unfold afterL; simp only; rw [if_neg (by omega)]
      obtain ⟨d1, d2, d3⟩ := done_ev hl kind x y (mn (mx got 0) y) x0 y1 xy (by omega)
      obtain ⟨r1, r2, r3⟩ := hj1 (doneD l kind x y (mn (mx got 0) y)) kind x y fr d2 d3 x0 (by omega) xy (fun h => (hf h).2)
      rw [hL]
      refine ⟨d2, d3, r1, r2, ?_⟩
      refine Ev.step (f := fun k => _) (fun k => by rw [plan_After.j0, if_neg (by decide)]) ?_
      refine Ev.bind hn ?_
      refine ev_ite (fun g => by simp only at g; omega) (fun _ => ?_)
      exact Ev.bind d1 r3
  obtain ⟨m1, m2, m3, m4, m5⟩ := key
  refine ⟨?_, map_mk m1 (by omega) m4 (statD_is _), m2⟩
  unfold plan_After.f
  simp only [copied_eq p q s hlen, opts_eq, ho, Option.bind_some, if_true]
  have h := mapmay_ev p q s l (by omega)
  rw [hm] at h
  exact Ev.bind h m5
end Go.Proofs.Ytnoilinjlelpaaa.Reg
