/- Plain laws of regions out of parts: they may be, and they end at the size. No conditions beyond those that the lemmas name. -/
import Derived.Test.YtlcablcpcbmgeaaGreatDoorPx0
import Derived.Test.YtlcablcpcbmgeaaGreatDoorPx38
import Derived.Test.YtlcablcpcbmgeaaGreatDoorPx40
import Derived.Test.YtlcablcpcbmgeaaGreatDoorPx41
import Derived.Test.YtlcablcpcbmgeaaGreatDoorRegS
-- names: salvorlaw16_Made.f salvorlaw16_Cut_of.f region_New.f region_Set.f
namespace Go.Proofs.YtlcablcpcbmgeaaGreatDoor.Reg
open Go.RowKit Go.Proofs.YtlcablcpcbmgeaaGreatDoorW.PrintWords Go.Proofs.YtlcablcpcbmgeaaGreatDoorW.PrintLast Go.Proofs.YtlcablcpcbmgeaaGreatDoorW.PrintMore Go.Proofs.YtlcablcpcbmgeaaGreatDoor.P
set_option linter.unusedVariables false
set_option linter.unusedSimpArgs false
/-- A part's status. -/
def ofC (c : Int) : Int := if c % 5 = 0 then 63 else if c % 5 = 1 then 42 else if c % 5 = 2 then 47 else if c % 5 = 3 then 45 else 43
theorem ofC_is (c : Int) : isS (ofC c) = true := by
  unfold ofC
  repeat' split
  all_goals rfl
theorem cut_of (a b c : Int) (h0 : 0 ≤ c) : salvorlaw16_Cut_of.f a b c = some (ofC c) := by
  have h5 : c % 5 = 0 ∨ c % 5 = 1 ∨ c % 5 = 2 ∨ c % 5 = 3 ∨ c % 5 = 4 := by omega
  unfold salvorlaw16_Cut_of.f ofC
  rw [Int.tmod_eq_emod_of_nonneg h0]
  rcases h5 with h | h | h | h | h <;> simp [h, rd]
theorem rd75_at (l : List S75) (i : Nat) (r : S75) (t : List S75) (h : l.drop i = r :: t) : rd_T75 l (i : Int) = r := by
  unfold rd_T75
  have h1 : l[i]? = some r := by
    have := List.getElem?_drop (xs := l) (i := i) (j := 0)
    rw [h] at this
    simpa using this.symm
  simp [List.getD, h1]
/-- A part's parts are bytes. -/
def Small (c : S75) : Prop := (0 ≤ c.f0 ∧ c.f0 ≤ 255) ∧ (0 ≤ c.f1 ∧ c.f1 ≤ 255) ∧ (0 ≤ c.f2 ∧ c.f2 ≤ 255)
def madeL : List S23 → List S75 → List S23
  | r, [] => r
  | r, c :: t => madeL (setM r c.f0 c.f1 (ofC c.f2)) t
theorem set_small {r : List S23} (hr : mayL 0 none r = true) (c : S75) (hc : Small c) :
    Ev (fun k => region_Set.f k r (wrap64 c.f0) (wrap64 c.f1) (ofC c.f2)) (setM r c.f0 c.f1 (ofC c.f2)) ∧ mayL 0 none (setM r c.f0 c.f1 (ofC c.f2)) = true ∧ endOf 0 (setM r c.f0 c.f1 (ofC c.f2)) = endOf 0 r := by
  obtain ⟨h1, h2, h3⟩ := hc
  rw [wrap_in (x := c.f0) (by omega) (by omega), wrap_in (x := c.f1) (by omega) (by omega)]
  obtain ⟨e1, e2, e3, _⟩ := set_may hr (show 0 ≤ c.f0 by omega) (show 0 ≤ c.f1 by omega) (ofC_is c.f2)
  exact ⟨e1, e2, e3⟩
theorem made_ev' (cs : List S75) (hcs : ∀ c ∈ cs, Small c) (hl : cs.length ≤ 1000000) : ∀ (t : List S75) (i : Nat) (r : List S23), cs.drop i = t → mayL 0 none r = true →
    Ev (fun k => salvorlaw16_Made.l0 k cs r (i : Int)) (madeL r t) ∧ mayL 0 none (madeL r t) = true ∧ endOf 0 (madeL r t) = endOf 0 r := by
  intro t
  induction t with
  | nil =>
    intro i r h hr
    have hge := drop_nil_ge h
    refine ⟨Ev.step (f := fun _ => some r) (fun k => ?_) (Ev.now _), hr, rfl⟩
    simp only [salvorlaw16_Made.l0]
    rw [if_neg (by omega)]
  | cons c t ih =>
    intro i r h hr
    have hlt := drop_lt h
    have hrd := rd75_at cs i c t h
    have hc := hcs c (by rw [← hrd]; unfold rd_T75; simp [List.getD, hlt])
    obtain ⟨e1, e2, e3⟩ := set_small hr c hc
    obtain ⟨i1, i2, i3⟩ := ih (i + 1) _ (drop_succ h) e2
    refine ⟨?_, i2, i3.trans e3⟩
    refine Ev.step (f := fun k => (region_Set.f k r (wrap64 c.f0) (wrap64 c.f1) (ofC c.f2)).bind fun t286 => salvorlaw16_Made.l0 k cs t286 ((i + 1 : Nat) : Int)) (fun k => ?_) (Ev.bind e1 i1)
    simp only [salvorlaw16_Made.l0]
    rw [if_pos (by omega), if_pos (by omega), hrd, cut_of _ _ _ (by unfold Small at hc; omega), wrap_in (x := (i : Int) + 1) (by omega) (by omega)]
    rfl
theorem new_eq (n : Int) (h0 : 0 ≤ n) (h1 : n ≤ 255) : ∃ r, region_New.f n = some r ∧ mayL 0 none r = true ∧ endOf 0 r = n := by
  unfold region_New.f
  by_cases c : n < 1
  · rw [if_pos c]
    exact ⟨[], rfl, rfl, by simp [endOf]; omega⟩
  · rw [if_neg c, if_neg (by omega)]
    exact ⟨_, rfl, mayL_mk rfl (by simp only; omega) (by simp only; omega) rfl (by simp) rfl, by simp [endOf]⟩
/-- What is made out of a size and parts. -/
theorem made_ev (n : Int) (h0 : 0 ≤ n) (h1 : n ≤ 255) (cs : List S75) (hcs : ∀ c ∈ cs, Small c) (hl : cs.length ≤ 1000000) :
    ∃ r, Ev (fun k => salvorlaw16_Made.f k n cs) r ∧ mayL 0 none r = true ∧ endOf 0 r = n := by
  obtain ⟨r, e1, e2, e3⟩ := new_eq n h0 h1
  obtain ⟨i1, i2, i3⟩ := made_ev' cs hcs hl cs 0 r rfl e2
  refine ⟨madeL r cs, ?_, i2, i3.trans e3⟩
  unfold salvorlaw16_Made.f
  rw [wrap_in (x := n) (by omega) (by omega), e1]
  simp only [Option.bind_some]
  exact i1
end Go.Proofs.YtlcablcpcbmgeaaGreatDoor.Reg
