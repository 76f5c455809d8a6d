/- Regions out of parts, in plain Lean: they may be, they end at the size, and place by place the last part that has it tells the status. No conditions beyond those that the lemmas name. -/
import Derived.Test.YtnoilinjlelpaaaPx0
import Derived.Test.YtnoilinjlelpaaaPx3
import Derived.Test.YtnoilinjlelpaaaPx16
import Derived.Test.YtnoilinjlelpaaaPx37
import Derived.Test.YtnoilinjlelpaaaRegA
namespace Go.Proofs.Ytnoilinjlelpaaa.Reg
open Go.RowKit Go.Proofs.YtnoilinjlelpaaaW.PrintWords Go.Proofs.YtnoilinjlelpaaaW.PrintLast Go.Proofs.YtnoilinjlelpaaaW.PrintMore Go.Proofs.Ytnoilinjlelpaaa.P

/-- A part's status. -/
def ofC (c : Int) : Int := if c % 5 = 0 then 63 else if c % 5 = 1 then 42 else if c % 5 = 2 then 47 else if c % 5 = 3 then 45 else 43
theorem ofC_is (c : Int) : isS (ofC c) = true := by
  unfold ofC
  repeat' split
  all_goals rfl
theorem cut_of (a b c : Int) (h0 : 0 ≤ c) : salvorlaw16_Cut_of.f a b c = some (ofC c) := by
  have h5 : c % 5 = 0 ∨ c % 5 = 1 ∨ c % 5 = 2 ∨ c % 5 = 3 ∨ c % 5 = 4 := by omega
  unfold salvorlaw16_Cut_of.f ofC
  rw [Int.tmod_eq_emod_of_nonneg h0]
  rcases h5 with h | h | h | h | h <;> simp [h, rd]

theorem WF83_range {r : S83} (h : (Lit.int .u8 r.f0).wf = true ∧ (Lit.int .u8 r.f1).wf = true ∧ (Lit.int .u8 r.f2).wf = true) : (0 ≤ r.f0 ∧ r.f0 ≤ 255) ∧ (0 ≤ r.f1 ∧ r.f1 ≤ 255) ∧ (0 ≤ r.f2 ∧ r.f2 ≤ 255) := ⟨u8_range h.1, u8_range h.2.1, u8_range h.2.2⟩
theorem rd40_at (l : List S83) (i : Nat) (r : S83) (t : List S83) (h : l.drop i = r :: t) : rd_T83 l (i : Int) = r := by
  unfold rd_T83
  have h1 : l[i]? = some r := by
    have := List.getElem?_drop (xs := l) (i := i) (j := 0)
    rw [h] at this
    simpa using this.symm
  simp [List.getD, h1]
/-- A part's parts are bytes. -/
def Small (c : S83) : Prop := (0 ≤ c.f0 ∧ c.f0 ≤ 255) ∧ (0 ≤ c.f1 ∧ c.f1 ≤ 255) ∧ (0 ≤ c.f2 ∧ c.f2 ≤ 255)
/-- The status of a place behind parts, one behind the other. -/
def over (s : Int) (x : Int) : List S83 → Int
  | [] => s
  | c :: t => over (if c.f0 ≤ x ∧ x < c.f0 + c.f1 then ofC c.f2 else s) x t
def madeL : List S33 → List S83 → List S33
  | r, [] => r
  | r, c :: t => madeL (setM r c.f0 c.f1 (ofC c.f2)) t
theorem set_small {r : List S33} (hr : mayL 0 none r = true) (c : S83) (hc : Small c) :
    Ev (fun k => region_Set.f k r (wrap64 c.f0) (wrap64 c.f1) (ofC c.f2)) (setM r c.f0 c.f1 (ofC c.f2)) ∧ mayL 0 none (setM r c.f0 c.f1 (ofC c.f2)) = true ∧ endOf 0 (setM r c.f0 c.f1 (ofC c.f2)) = endOf 0 r ∧
    ∀ x, stAt 0 (setM r c.f0 c.f1 (ofC c.f2)) x = (stAt 0 r x).map (fun s => if c.f0 ≤ x ∧ x < c.f0 + c.f1 then ofC c.f2 else s) := by
  obtain ⟨h1, h2, h3⟩ := hc
  rw [wrap_in (x := c.f0) (by omega) (by omega), wrap_in (x := c.f1) (by omega) (by omega)]
  exact set_may hr (by omega) (by omega) (ofC_is _)
theorem made_ev' (cs : List S83) (hcs : ∀ c ∈ cs, Small c) (hl : cs.length ≤ 1000000) : ∀ (t : List S83) (i : Nat) (r : List S33), cs.drop i = t → mayL 0 none r = true →
    Ev (fun k => salvorlaw16_Made.l0 k cs r (i : Int)) (madeL r t) ∧ mayL 0 none (madeL r t) = true ∧ endOf 0 (madeL r t) = endOf 0 r ∧ ∀ x, stAt 0 (madeL r t) x = (stAt 0 r x).map (fun s => over s x t) := by
  intro t
  induction t with
  | nil =>
    intro i r h hr
    have hge := drop_nil_ge h
    refine ⟨Ev.step (f := fun _ => some r) (fun k => ?_) (Ev.now _), hr, rfl, fun x => ?_⟩
    · simp only [salvorlaw16_Made.l0]
      rw [if_neg (by omega)]
    · simp [madeL, over]
  | cons c t ih =>
    intro i r h hr
    have hlt := drop_lt h
    have hrd := rd40_at cs i c t h
    have hc := hcs c (by rw [← hrd]; unfold rd_T83; simp [List.getD, hlt])
    obtain ⟨e1, e2, e3, e4⟩ := set_small hr c hc
    obtain ⟨i1, i2, i3, i4⟩ := ih (i + 1) _ (drop_succ h) e2
    refine ⟨?_, i2, i3.trans e3, fun x => ?_⟩
    · refine Ev.step (f := fun k => (region_Set.f k r (wrap64 c.f0) (wrap64 c.f1) (ofC c.f2)).bind fun t286 => salvorlaw16_Made.l0 k cs t286 ((i + 1 : Nat) : Int)) (fun k => ?_) (Ev.bind e1 i1)
      simp only [salvorlaw16_Made.l0]
      rw [if_pos (by omega), if_pos (by omega), hrd, cut_of _ _ _ (by unfold Small at hc; omega), wrap_in (x := (i : Int) + 1) (by omega) (by omega)]
      rfl
    · rw [madeL]
      refine (i4 x).trans ?_
      rw [e4 x]
      cases stAt 0 r x with
      | none => rfl
      | some s => simp [over]
theorem new_eq (n : Int) (h0 : 0 ≤ n) (h1 : n ≤ 255) : ∃ r, region_New.f n = some r ∧ mayL 0 none r = true ∧ endOf 0 r = n ∧ ∀ x, stAt 0 r x = if 0 ≤ x ∧ x < n then some 63 else none := by
  unfold region_New.f
  by_cases c : n < 1
  · rw [if_pos c]
    refine ⟨[], rfl, rfl, by simp [endOf]; omega, fun x => ?_⟩
    rw [if_neg (by omega)]
    rfl
  · rw [if_neg c, if_neg (by omega)]
    refine ⟨_, rfl, mayL_mk rfl (by simp only; omega) (by simp only; omega) rfl (by simp) rfl, by simp [endOf], fun x => ?_⟩
    show (if x < 0 then none else if x < 0 + n then some 63 else none) = _
    by_cases c1 : x < 0
    · rw [if_pos c1, if_neg (by omega)]
    · rw [if_neg c1]
      by_cases c2 : x < n
      · rw [if_pos (by omega), if_pos (by omega)]
      · rw [if_neg (by omega), if_neg (by omega)]
/-- What is made out of a size and parts. -/
theorem made_ev (n : Int) (h0 : 0 ≤ n) (h1 : n ≤ 255) (cs : List S83) (hcs : ∀ c ∈ cs, Small c) (hl : cs.length ≤ 1000000) :
    ∃ r, Ev (fun k => salvorlaw16_Made.f k n cs) r ∧ mayL 0 none r = true ∧ endOf 0 r = n ∧ ∀ x, stAt 0 r x = if 0 ≤ x ∧ x < n then some (over 63 x cs) else none := by
  obtain ⟨r, e1, e2, e3, e4⟩ := new_eq n h0 h1
  obtain ⟨i1, i2, i3, i4⟩ := made_ev' cs hcs hl cs 0 r rfl e2
  refine ⟨madeL r cs, ?_, i2, i3.trans e3, fun x => ?_⟩
  · unfold salvorlaw16_Made.f
    rw [wrap_in (x := n) (by omega) (by omega), e1]
    simp only [Option.bind_some]
    exact i1
  · rw [i4 x, e4 x]
    by_cases c : 0 ≤ x ∧ x < n
    · rw [if_pos c, if_pos c]; rfl
    · rw [if_neg c, if_neg c]; rfl
end Go.Proofs.Ytnoilinjlelpaaa.Reg
