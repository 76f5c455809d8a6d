/- Regions are the same as themselves, as the reference asks it. No conditions beyond those that the lemmas name. -/
import Derived.Test.YtnoilinjlelpaaaPx0
import Derived.Test.YtnoilinjlelpaaaPx20
import Derived.Test.YtnoilinjlelpaaaRegA
namespace Go.Proofs.Ytnoilinjlelpaaa.Reg
open Go.RowKit Go.Proofs.YtnoilinjlelpaaaW.PrintWords Go.Proofs.YtnoilinjlelpaaaW.PrintLast Go.Proofs.YtnoilinjlelpaaaW.PrintMore Go.Proofs.Ytnoilinjlelpaaa.P
theorem same_ev (l : List S33) (hl : l.length ≤ 4611686018427387904) : ∀ (t : List S33) (i : Nat), l.drop i = t → Ev (fun k => salvorref16_SameRegions.l0 k l l (i : Int)) true := by
  intro t
  induction t with
  | nil =>
    intro i h
    have hge := drop_nil_ge h
    refine Ev.step (f := fun _ => some true) (fun k => ?_) (Ev.now _)
    simp only [salvorref16_SameRegions.l0]
    rw [if_neg (by omega)]
  | cons r t ih =>
    intro i h
    have hlt := drop_lt h
    refine Ev.step (f := fun k => salvorref16_SameRegions.l0 k l l ((i + 1 : Nat) : Int)) (fun k => ?_) (ih (i + 1) (drop_succ h))
    simp only [salvorref16_SameRegions.l0]
    rw [if_pos (by omega), if_pos (by omega), if_pos (by omega), wrap_in (x := (i : Int) + 1) (by omega) (by omega)]
    simp
theorem same_self (l : List S33) (hl : l.length ≤ 4611686018427387904) : Ev (fun k => salvorref16_SameRegions.f k l l) true := by
  unfold salvorref16_SameRegions.f
  simp only [if_true]
  exact same_ev l hl l 0 rfl

end Go.Proofs.Ytnoilinjlelpaaa.Reg
