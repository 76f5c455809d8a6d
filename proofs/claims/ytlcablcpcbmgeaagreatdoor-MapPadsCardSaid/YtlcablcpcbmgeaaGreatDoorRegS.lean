/- Regions in plain Lean: which may be, what Set makes of them place by place, lists that are told by their places, the end. No conditions beyond those that the lemmas name. -/
import Derived.Test.YtlcablcpcbmgeaaGreatDoorPx0
import Derived.Test.YtlcablcpcbmgeaaGreatDoorPx2
import Derived.Test.YtlcablcpcbmgeaaGreatDoorPx19
import Derived.Test.YtlcablcpcbmgeaaGreatDoorPx39
import Derived.Test.YtlcablcpcbmgeaaGreatDoorPx40
import Derived.Test.YtlcablcpcbmgeaaGreatDoorMapS
namespace Go.Proofs.YtlcablcpcbmgeaaGreatDoor.Reg
open Go.RowKit Go.Proofs.YtlcablcpcbmgeaaGreatDoorW.PrintWords Go.Proofs.YtlcablcpcbmgeaaGreatDoorW.PrintLast Go.Proofs.YtlcablcpcbmgeaaGreatDoorW.PrintMore Go.Proofs.YtlcablcpcbmgeaaGreatDoor.P
/-! ### setting -/
def mnI (x y : Int) : Int := if y < x then y else x
/-- What Set makes of the rest of regions, behind what is made of those ahead. -/
def setL (f t st : Int) : List S23 → List S23 → List S23
  | out, [] => out
  | out, r :: rs =>
    let e := r.f0 + r.f1
    let a := mn (mx f r.f0) e
    let b := mn (mx t r.f0) e
    setL f t st (addP (addP (addP out r.f0 (a - r.f0) r.f2) a (b - a) st) b (e - b) r.f2) rs

theorem clamp (f p e : Int) (h : p ≤ e) : p ≤ mn (mx f p) e ∧ mn (mx f p) e ≤ e ∧ (∀ x, p ≤ x → x < e → (x < mn (mx f p) e ↔ x < f)) := by
  unfold mn mx
  refine ⟨?_, ?_, fun x h0 h1 => ?_⟩
  · split <;> split at * <;> omega
  · split <;> split at * <;> omega
  · split <;> split at * <;> omega
theorem clamp_le (f t p e : Int) (h : f ≤ t) : mn (mx f p) e ≤ mn (mx t p) e := by
  unfold mn mx
  repeat' split
  all_goals omega

/-- One round of Set: of what lies ahead and a region behind it. -/
theorem round_may {out : List S23} {r : S23} {f t st : Int} (h : mayL 0 none out = true) (hE : endOf 0 out = r.f0) (h1 : 1 ≤ r.f1) (h2 : r.f0 + r.f1 ≤ 1099511627776) (hr : isS r.f2 = true) (hs : isS st = true) (hft : f ≤ t) :
    region_Push.f out (mn (mx f r.f0) (r.f0 + r.f1) - r.f0) r.f2 = some (addP out r.f0 (mn (mx f r.f0) (r.f0 + r.f1) - r.f0) r.f2) ∧
    region_Push.f (addP out r.f0 (mn (mx f r.f0) (r.f0 + r.f1) - r.f0) r.f2) (mn (mx t r.f0) (r.f0 + r.f1) - mn (mx f r.f0) (r.f0 + r.f1)) st = some (addP (addP out r.f0 (mn (mx f r.f0) (r.f0 + r.f1) - r.f0) r.f2) (mn (mx f r.f0) (r.f0 + r.f1)) (mn (mx t r.f0) (r.f0 + r.f1) - mn (mx f r.f0) (r.f0 + r.f1)) st) ∧
    region_Push.f (addP (addP out r.f0 (mn (mx f r.f0) (r.f0 + r.f1) - r.f0) r.f2) (mn (mx f r.f0) (r.f0 + r.f1)) (mn (mx t r.f0) (r.f0 + r.f1) - mn (mx f r.f0) (r.f0 + r.f1)) st) (r.f0 + r.f1 - mn (mx t r.f0) (r.f0 + r.f1)) r.f2 = some (addP (addP (addP out r.f0 (mn (mx f r.f0) (r.f0 + r.f1) - r.f0) r.f2) (mn (mx f r.f0) (r.f0 + r.f1)) (mn (mx t r.f0) (r.f0 + r.f1) - mn (mx f r.f0) (r.f0 + r.f1)) st) (mn (mx t r.f0) (r.f0 + r.f1)) (r.f0 + r.f1 - mn (mx t r.f0) (r.f0 + r.f1)) r.f2) ∧
    mayL 0 none (addP (addP (addP out r.f0 (mn (mx f r.f0) (r.f0 + r.f1) - r.f0) r.f2) (mn (mx f r.f0) (r.f0 + r.f1)) (mn (mx t r.f0) (r.f0 + r.f1) - mn (mx f r.f0) (r.f0 + r.f1)) st) (mn (mx t r.f0) (r.f0 + r.f1)) (r.f0 + r.f1 - mn (mx t r.f0) (r.f0 + r.f1)) r.f2) = true ∧
    endOf 0 (addP (addP (addP out r.f0 (mn (mx f r.f0) (r.f0 + r.f1) - r.f0) r.f2) (mn (mx f r.f0) (r.f0 + r.f1)) (mn (mx t r.f0) (r.f0 + r.f1) - mn (mx f r.f0) (r.f0 + r.f1)) st) (mn (mx t r.f0) (r.f0 + r.f1)) (r.f0 + r.f1 - mn (mx t r.f0) (r.f0 + r.f1)) r.f2) = r.f0 + r.f1 ∧
    ∀ x, stAt 0 (addP (addP (addP out r.f0 (mn (mx f r.f0) (r.f0 + r.f1) - r.f0) r.f2) (mn (mx f r.f0) (r.f0 + r.f1)) (mn (mx t r.f0) (r.f0 + r.f1) - mn (mx f r.f0) (r.f0 + r.f1)) st) (mn (mx t r.f0) (r.f0 + r.f1)) (r.f0 + r.f1 - mn (mx t r.f0) (r.f0 + r.f1)) r.f2) x =
      if r.f0 ≤ x ∧ x < r.f0 + r.f1 then some (if f ≤ x ∧ x < t then st else r.f2) else stAt 0 out x := by
  obtain ⟨ca0, ca1, ca2⟩ := clamp f r.f0 (r.f0 + r.f1) (by omega)
  obtain ⟨cb0, cb1, cb2⟩ := clamp t r.f0 (r.f0 + r.f1) (by omega)
  have cab := clamp_le f t r.f0 (r.f0 + r.f1) hft
  obtain ⟨e, he⟩ : ∃ e, r.f0 + r.f1 = e := ⟨_, rfl⟩
  rw [he] at ca0 ca1 ca2 cb0 cb1 cb2 cab h2 ⊢
  obtain ⟨a, ha⟩ : ∃ a, mn (mx f r.f0) e = a := ⟨_, rfl⟩
  obtain ⟨b, hb⟩ : ∃ b, mn (mx t r.f0) e = b := ⟨_, rfl⟩
  rw [ha] at ca0 ca1 ca2 cab ⊢
  rw [hb] at cb0 cb1 cb2 cab ⊢
  have q1 := push_eq h (a - r.f0) r.f2 (by rw [hE]; omega)
  rw [hE] at q1
  obtain ⟨m1, n1, s1⟩ := addP_may h hE (n := a - r.f0) (st := r.f2) (fun _ => hr) (by omega)
  have E1 : endOf 0 (addP out r.f0 (a - r.f0) r.f2) = a := by rw [n1]; split <;> omega
  have q2 := push_eq m1 (b - a) st (by rw [E1]; omega)
  rw [E1] at q2
  obtain ⟨m2, n2, s2⟩ := addP_may m1 E1 (n := b - a) (st := st) (fun _ => hs) (by omega)
  have E2 : endOf 0 (addP (addP out r.f0 (a - r.f0) r.f2) a (b - a) st) = b := by rw [n2]; split <;> omega
  have q3 := push_eq m2 (e - b) r.f2 (by rw [E2]; omega)
  rw [E2] at q3
  obtain ⟨m3, n3, s3⟩ := addP_may m2 E2 (n := e - b) (st := r.f2) (fun _ => hr) (by omega)
  refine ⟨q1, q2, q3, m3, by rw [n3]; split <;> omega, fun x => ?_⟩
  rw [s3 x, s2 x, s1 x]
  by_cases c0 : r.f0 ≤ x ∧ x < e
  · have wa := ca2 x c0.1 c0.2
    have wb := cb2 x c0.1 c0.2
    rw [if_pos c0]
    by_cases d1 : x < a
    · have : x < f := wa.1 d1
      rw [if_neg (by omega), if_neg (by omega), if_pos (by omega), if_neg (by omega)]
    · have d1' : ¬ x < f := fun hh => d1 (wa.2 hh)
      by_cases d2 : x < b
      · have : x < t := wb.1 d2
        rw [if_neg (by omega), if_pos (by omega), if_pos (by omega)]
      · have d2' : ¬ x < t := fun hh => d2 (wb.2 hh)
        rw [if_pos (by omega), if_neg (by omega)]
  · rw [if_neg c0, if_neg (by omega), if_neg (by omega), if_neg (by omega)]

theorem set_ev (l : List S23) (hl : mayL 0 none l = true) (f t st : Int) (_hf : 0 ≤ f) (hft : f ≤ t) (_ht : t ≤ 1099511627776) (hs : isS st = true) : ∀ (rs : List S23) (i : Nat) (out : List S23) (p : Option Int) (E : Int), l.drop i = rs → mayL 0 none out = true → endOf 0 out = E → 0 ≤ E → E ≤ 1099511627776 → mayL E p rs = true →
    Ev (fun k => region_Set.l0 k st f t out l (l.length : Int) (i : Int)) (setL f t st out rs) ∧ mayL 0 none (setL f t st out rs) = true ∧ endOf 0 (setL f t st out rs) = endOf E rs ∧
    ∀ x, stAt 0 (setL f t st out rs) x = if E ≤ x ∧ x < endOf E rs then (stAt E rs x).map (fun s => if f ≤ x ∧ x < t then st else s) else stAt 0 out x := by
  have hlen := (mayL_end hl (by omega))
  intro rs
  induction rs with
  | nil =>
    intro i out p E h hm hE h0 h1 hr
    have hge := drop_nil_ge h
    refine ⟨Ev.step (f := fun _ => some out) (fun k => ?_) (Ev.now _), hm, by rw [setL, hE]; rfl, fun x => ?_⟩
    · simp only [region_Set.l0]
      rw [if_neg (by omega)]
    · show stAt 0 out x = _
      rw [if_neg (by simp only [endOf]; omega)]
  | cons r rs ih =>
    intro i out p E h hm hE h0 h1 hr
    have hlt := drop_lt h
    have hn := drop_succ h
    have hrd := rd_at l i r rs h
    obtain ⟨g1, g2, g3, g4, g5, g6⟩ := mayL_cons hr
    have hend := mayL_end g6 (by omega)
    obtain rfl := g1
    obtain ⟨q1, q2, q3, m3, E3, s3⟩ := round_may (f := f) (t := t) (st := st) hm hE g2 (by omega) g4 hs hft
    obtain ⟨ca0, ca1, ca2⟩ := clamp f r.f0 (r.f0 + r.f1) (by omega)
    obtain ⟨cb0, cb1, cb2⟩ := clamp t r.f0 (r.f0 + r.f1) (by omega)
    have cab := clamp_le f t r.f0 (r.f0 + r.f1) hft
    obtain ⟨i1, i2, i3, i4⟩ := ih (i + 1) _ _ (r.f0 + r.f1) hn m3 E3 (by omega) (by omega) g6
    refine ⟨?_, i2, by rw [setL]; exact i3.trans rfl, fun x => ?_⟩
    · refine Ev.step (f := fun k => region_Set.l0 k st f t (addP (addP (addP out r.f0 (mn (mx f r.f0) (r.f0 + r.f1) - r.f0) r.f2) (mn (mx f r.f0) (r.f0 + r.f1)) (mn (mx t r.f0) (r.f0 + r.f1) - mn (mx f r.f0) (r.f0 + r.f1)) st) (mn (mx t r.f0) (r.f0 + r.f1)) (r.f0 + r.f1 - mn (mx t r.f0) (r.f0 + r.f1)) r.f2) l (l.length : Int) ((i : Int) + 1)) (fun k => ?_) (by rw [show ((i : Int) + 1) = ((i + 1 : Nat) : Int) from by omega]; exact i1)
      simp only [region_Set.l0]
      rw [if_pos (by omega), if_pos (by omega), if_pos (by omega), hrd, wrap_in (x := r.f0 + r.f1) (by omega) (by omega), wrap_in (x := mn (mx f r.f0) (r.f0 + r.f1) - r.f0) (by omega) (by omega), q1]
      simp only [Option.bind_some]
      rw [wrap_in (x := mn (mx t r.f0) (r.f0 + r.f1) - mn (mx f r.f0) (r.f0 + r.f1)) (by omega) (by omega), q2]
      simp only [Option.bind_some]
      rw [wrap_in (x := r.f0 + r.f1 - mn (mx t r.f0) (r.f0 + r.f1)) (by omega) (by omega), q3]
      simp only [Option.bind_some]
      rw [wrap_in (x := (i : Int) + 1) (by omega) (by omega)]
    · rw [setL]
      refine (i4 x).trans ?_
      rw [s3 x]
      show _ = if r.f0 ≤ x ∧ x < endOf (r.f0 + r.f1) rs then ((if x < r.f0 then none else if x < r.f0 + r.f1 then some r.f2 else stAt (r.f0 + r.f1) rs x).map (fun s => if f ≤ x ∧ x < t then st else s)) else stAt 0 out x
      obtain ⟨Z, hZ⟩ : ∃ Z, endOf (r.f0 + r.f1) rs = Z := ⟨_, rfl⟩
      rw [hZ] at hend ⊢
      by_cases d1 : r.f0 + r.f1 ≤ x ∧ x < Z
      · rw [if_pos d1, if_pos (by omega), if_neg (by omega), if_neg (by omega)]
      · rw [if_neg d1]
        by_cases d2 : r.f0 ≤ x ∧ x < r.f0 + r.f1
        · rw [if_pos d2, if_pos (show r.f0 ≤ x ∧ x < Z by omega), if_neg (show ¬ x < r.f0 by omega), if_pos (show x < r.f0 + r.f1 by omega)]
          rfl
        · rw [if_neg d2, if_neg (show ¬ (r.f0 ≤ x ∧ x < Z) by omega)]

theorem stAt_none_out {l : List S23} (h : mayL 0 none l = true) (x : Int) (hx : ¬ (0 ≤ x ∧ x < endOf 0 l)) : stAt 0 l x = none := stAt_out h x (by omega)

/-- What Set makes of regions that may be. -/
def setM (l : List S23) (pos n st : Int) : List S23 := setL (mn pos (endOf 0 l)) (mn pos (endOf 0 l) + mn n (endOf 0 l - mn pos (endOf 0 l))) st [] l
theorem mn_le (x y : Int) : mn x y ≤ x ∧ mn x y ≤ y ∧ (mn x y = x ∨ mn x y = y) := by unfold mn; split <;> omega
theorem mx_ge (x y : Int) : x ≤ mx x y ∧ y ≤ mx x y ∧ (mx x y = x ∨ mx x y = y) := by unfold mx; split <;> omega

theorem set_may {l : List S23} (hl : mayL 0 none l = true) {pos n st : Int} (hp : 0 ≤ pos) (hn : 0 ≤ n) (hs : isS st = true) :
    Ev (fun k => region_Set.f k l pos n st) (setM l pos n st) ∧ mayL 0 none (setM l pos n st) = true ∧ endOf 0 (setM l pos n st) = endOf 0 l ∧
    ∀ x, stAt 0 (setM l pos n st) x = (stAt 0 l x).map (fun s => if pos ≤ x ∧ x < pos + n then st else s) := by
  have hb := mayL_end hl (by omega)
  have h1 := mn_le pos (endOf 0 l)
  have h2 := mn_le n (endOf 0 l - mn pos (endOf 0 l))
  obtain ⟨e1, e2, e3, e4⟩ := set_ev l hl (mn pos (endOf 0 l)) (mn pos (endOf 0 l) + mn n (endOf 0 l - mn pos (endOf 0 l))) st (by omega) (by omega) (by omega) hs l 0 [] none 0 rfl rfl rfl (by omega) (by omega) hl
  refine ⟨?_, e2, e3, fun x => ?_⟩
  · unfold region_Set.f
    refine Ev.bind (may l (by omega)) ?_
    rw [hl]
    simp only [if_true]
    rw [show (fun k => if pos < 0 then region_Set.j0 k l pos n st true else if n < 0 then region_Set.j0 k l pos n st true else (region_Is.f st).bind fun t125 => region_Set.j0 k l pos n st (!t125)) = fun k => region_Set.j0 k l pos n st false from by
      funext k
      rw [if_neg (by omega), if_neg (by omega), is_eq, hs]
      rfl]
    refine Ev.step (f := fun k => region_Set.l0 k st (mn pos (endOf 0 l)) (mn pos (endOf 0 l) + mn n (endOf 0 l - mn pos (endOf 0 l))) [] l (l.length : Int) 0) (fun k => ?_) e1
    simp only [region_Set.j0, Bool.false_eq_true, if_false]
    rw [end_may hl]
    simp only [Option.bind_some]
    rw [wrap_in (x := endOf 0 l - mn pos (endOf 0 l)) (by omega) (by omega), wrap_in (x := mn pos (endOf 0 l) + mn n (endOf 0 l - mn pos (endOf 0 l))) (by omega) (by omega)]
  · refine (e4 x).trans ?_
    by_cases c : 0 ≤ x ∧ x < endOf 0 l
    · rw [if_pos c]
      congr 1
      funext s
      by_cases d : pos ≤ x ∧ x < pos + n
      · rw [if_pos d, if_pos (by omega)]
      · rw [if_neg d, if_neg (by omega)]
    · rw [if_neg c, stAt_none_out hl x c]
      rfl
/-- .. and of others: they stay. -/
theorem set_no {l : List S23} (hlen : l.length ≤ 1000000) {pos n st : Int} (h : mayL 0 none l = false ∨ pos < 0 ∨ n < 0 ∨ isS st = false) : Ev (fun k => region_Set.f k l pos n st) l := by
  have hclone : api_Region.f l = some l := by
    unfold api_Region.f
    simp only [Option.bind_some, List.length_nil, List.nil_append]
    rw [if_pos (by omega)]
  have hj : Ev (fun k => region_Set.j0 k l pos n st true) l := by
    refine Ev.step (f := fun _ => some l) (fun k => ?_) (Ev.now _)
    simp only [region_Set.j0, if_true]
    rw [hclone]; rfl
  unfold region_Set.f
  refine Ev.bind (may l (by omega)) ?_
  cases hm : mayL 0 none l with
  | false => simpa using hj
  | true =>
    simp only [if_true]
    by_cases c1 : pos < 0
    · simpa [c1] using hj
    · by_cases c2 : n < 0
      · simpa [c1, c2] using hj
      · have : isS st = false := by simp_all
        simp only [c1, c2, if_false, is_eq, this, Option.bind_some, Bool.not_false]
        exact hj

end Go.Proofs.YtlcablcpcbmgeaaGreatDoor.Reg
