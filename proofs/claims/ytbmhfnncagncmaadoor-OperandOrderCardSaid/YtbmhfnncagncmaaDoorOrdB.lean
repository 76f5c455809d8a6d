/- Plain laws of dd's operands: in whatever order they stand they say the same; words of conv may stand together. No program in sight. No conditions beyond those that the lemmas name. -/
import Derived.Test.YtbmhfnncagncmaaDoorPx0
import Derived.Test.YtbmhfnncagncmaaDoorPx4
import Derived.Test.YtbmhfnncagncmaaDoorOrdA
namespace Go.Proofs.YtbmhfnncagncmaaDoor.PureO
open Go.RowKit Go.Proofs.YtbmhfnncagncmaaDoorW.PrintWords Go.Proofs.YtbmhfnncagncmaaDoorW.PrintLast Go.Proofs.YtbmhfnncagncmaaDoor.P
set_option linter.unusedVariables false
set_option linter.unusedSimpArgs false
theorem find_of_sel {a b : List S60} {key : ByteArray} (h : sel key a = sel key b) : arg_Find.g a key a.length = arg_Find.g b key b.length := by rw [find_sel, find_sel, h]
theorem wds_app (a b : List S60) : wds (a ++ b) = wds a ++ wds b := List.flatMap_append ..
theorem sel_turn {key : ByteArray} {a b : List S60} (h : (sel key (a ++ b)).length ≤ 1) : sel key (a ++ b) = sel key (b ++ a) := by
  rw [sel_app, List.length_append] at h
  rw [sel_app, sel_app]
  cases ha : sel key a with
  | nil => simp
  | cons x t =>
    rw [ha] at h
    have : sel key b = [] := List.length_eq_zero_iff.1 (by simp at h; omega)
    rw [this]; simp
/-- Operands that are turned about. -/
theorem turn_same (a b : List S60) (hone : ∀ key ∈ nine, (sel key (a ++ b)).length ≤ 1) (hflag : (sel kFlag (a ++ b)).length ≤ 1) : Same (a ++ b) (b ++ a) where
  find := fun key hk => find_of_sel (sel_turn (hone key hk))
  flag := by rw [sel_turn hflag]
  any := fun i => by simp only [sel_app, wds_app, List.any_append, Bool.or_comm]
  all := by simp only [sel_app, wds_app, List.all_append, Bool.and_comm]
def isConv (o : S60) : Bool := o.f0.toList == kConv.toList
theorem sel_rest {key : ByteArray} (hk : key.toList ≠ kConv.toList) : ∀ (l : List S60), sel key (l.filter fun o => !isConv o) = sel key l
  | [] => rfl
  | o :: l => by
    have ih := sel_rest hk l
    unfold sel at ih ⊢
    by_cases c : isConv o = true
    · have hn : (o.f0.toList == key.toList) = false := by
        unfold isConv at c
        rw [beq_eq_false_iff_ne]
        intro e
        exact hk (e.symm.trans (eq_of_beq c))
      rw [List.filter_cons, List.filter_cons, c, hn]
      simpa using ih
    · rw [Bool.not_eq_true] at c
      rw [show (o :: l).filter (fun o => !isConv o) = o :: l.filter (fun o => !isConv o) by rw [List.filter_cons, c]; rfl]
      rw [List.filter_cons, List.filter_cons, ih]
theorem sel_conv_rest : ∀ (l : List S60), sel kConv (l.filter fun o => !isConv o) = [] := fun l => by
  unfold sel
  rw [List.filter_filter]
  refine List.filter_eq_nil_iff.2 fun o _ => ?_
  unfold isConv
  cases o.f0.toList == kConv.toList <;> simp
theorem sel_two {key C : ByteArray} (hk : key.toList ≠ kConv.toList) : sel key [⟨kConv, C⟩, ⟨kConv, C⟩] = [] := by
  unfold sel
  have : ((⟨kConv, C⟩ : S60).f0.toList == key.toList) = false := by
    rw [beq_eq_false_iff_ne]; exact fun e => hk e.symm
  simp only [List.filter_cons, this, List.filter_nil]
  simp
/-- Words of conv together, and that twice. -/
theorem join_same (l : List S60) (C : ByteArray) (hC : wordsOf C = wds (sel kConv l)) : Same l (l.filter (fun o => !isConv o) ++ [⟨kConv, C⟩, ⟨kConv, C⟩]) := by
  have hs : sel kConv [(⟨kConv, C⟩ : S60), ⟨kConv, C⟩] = [⟨kConv, C⟩, ⟨kConv, C⟩] := by unfold sel; simp
  have hw : wds [(⟨kConv, C⟩ : S60), ⟨kConv, C⟩] = wds (sel kConv l) ++ wds (sel kConv l) := by
    unfold wds at hC ⊢; simp [hC]
  refine ⟨fun key hk => find_of_sel ?_, ?_, fun i => ?_, ?_⟩
  · have hne : key.toList ≠ kConv.toList := by
      revert key
      decide +kernel
    rw [sel_app, sel_rest hne, sel_two hne, List.append_nil]
  · have hne : kFlag.toList ≠ kConv.toList := by decide +kernel
    rw [sel_app, sel_rest hne, sel_two hne, List.append_nil]
  · rw [sel_app, sel_conv_rest, List.nil_append, hs, hw, List.any_append, Bool.or_self]
  · rw [sel_app, sel_conv_rest, List.nil_append, hs, hw, List.all_append, Bool.and_self]
end Go.Proofs.YtbmhfnncagncmaaDoor.PureO
