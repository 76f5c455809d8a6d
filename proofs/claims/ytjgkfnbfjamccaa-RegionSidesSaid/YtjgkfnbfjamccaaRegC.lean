/- What is asked of regions, in plain Lean: lists that are one, the end, the region of a place. No conditions beyond those that the lemmas name. -/
import Derived.Test.YtjgkfnbfjamccaaPx0
import Derived.Test.YtjgkfnbfjamccaaPx12
import Derived.Test.YtjgkfnbfjamccaaPx18
import Derived.Test.YtjgkfnbfjamccaaRegB
namespace Go.Proofs.Ytjgkfnbfjamccaa.Reg
open Go.RowKit Go.Proofs.YtjgkfnbfjamccaaW.PrintWords Go.Proofs.YtjgkfnbfjamccaaW.PrintLast Go.Proofs.YtjgkfnbfjamccaaW.PrintMore Go.Proofs.Ytjgkfnbfjamccaa.P

theorem same_ev (l : List S26) (hl : l.length ≤ 4611686018427387904) : ∀ (t : List S26) (i : Nat), l.drop i = t → Ev (fun k => salvorref16_SameRegions.l0 k l l (i : Int)) true := by
  intro t
  induction t with
  | nil =>
    intro i h
    have hge := drop_nil_ge h
    refine Ev.step (f := fun _ => some true) (fun k => ?_) (Ev.now _)
    simp only [salvorref16_SameRegions.l0]
    rw [if_neg (by omega)]
  | cons r t ih =>
    intro i h
    have hlt := drop_lt h
    refine Ev.step (f := fun k => salvorref16_SameRegions.l0 k l l ((i + 1 : Nat) : Int)) (fun k => ?_) (ih (i + 1) (drop_succ h))
    simp only [salvorref16_SameRegions.l0]
    rw [if_pos (by omega), if_pos (by omega), if_pos (by omega), wrap_in (x := (i : Int) + 1) (by omega) (by omega)]
    simp
theorem same_self (l : List S26) (hl : l.length ≤ 4611686018427387904) : Ev (fun k => salvorref16_SameRegions.f k l l) true := by
  unfold salvorref16_SameRegions.f
  simp only [if_true]
  exact same_ev l hl l 0 rfl

theorem end_ev (l : List S26) (hl : l.length ≤ 4611686018427387904) : Ev (fun k => region_End.f k l) (if mayL 0 none l = true then endOf 0 l else 0) := by
  unfold region_End.f
  refine Ev.bind (may l hl) ?_
  cases hm : mayL 0 none l with
  | false => exact Ev.now _
  | true => simp only [if_true, end_may hm, Option.bind_some]; exact Ev.now _
end Go.Proofs.Ytjgkfnbfjamccaa.Reg
