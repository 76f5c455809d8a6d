/- Plain laws: the reference's cutAt is the library's cut; operands of both are the same; the plain law of ArgOperands. No program in sight. No conditions. -/
import Derived.Test.YtlginoicaeonhaaDoorPx0
import Derived.Test.YtlginoicaeonhaaDoorPx5
import Derived.Test.YtlginoicaeonhaaDoorPx14
import Derived.Test.YtlginoicaeonhaaDoorArgA
import Derived.Lib.SplitLaws
namespace Go.Proofs.YtlginoicaeonhaaDoor.Pure
open Go.RowKit Go.Proofs.YtlginoicaeonhaaDoorW.PrintWords Go.Proofs.YtlginoicaeonhaaDoorW.PrintLast Go.Proofs.YtlginoicaeonhaaDoor.P
set_option linter.unusedVariables false
set_option linter.unusedSimpArgs false
def cutH (s : ByteArray) : Bool := (Lib.cut s.data.toList [61]).2.2
theorem occ_bt (s : ByteArray) (c : UInt8) (j : Nat) (hj : j < s.size) : Lib.occAt s.data.toList [c] j = decide (bt s j = (c.toNat : Int)) := by
  have hl : s.data.toList.length = s.size := Array.length_toList
  unfold Lib.occAt
  rw [List.drop_eq_getElem_cons (by rw [hl]; exact hj)]
  have e : bt s j = ((s.data.toList[j]'(by rw [hl]; exact hj)).toNat : Int) := by
    have := bt_at s (j : Int) (by simpa using hj)
    rw [← this]
    simp
    rfl
  rw [e]
  generalize s.data.toList[j] = a
  simp only [List.isPrefixOf, Bool.and_true]
  by_cases h : c = a
  · subst h; simp
  · have h2 : ¬ (a.toNat : Int) = (c.toNat : Int) := fun e => h (UInt8.toNat_inj.1 (by omega)).symm
    simp [h, h2]
theorem occ_end (s : ByteArray) (c : UInt8) : Lib.occAt s.data.toList [c] s.size = false := by
  have hl : s.data.toList.length = s.size := Array.length_toList
  unfold Lib.occAt
  rw [List.drop_of_length_le (by rw [hl]; exact Nat.le_refl _)]; rfl
theorem index_miss (s : ByteArray) (c : UInt8) (h : Lib.NoOcc s.data.toList [c] s.size) : Lib.index s.data.toList [c] = -1 := by
  have hl : s.data.toList.length = s.size := Array.length_toList
  rcases Lib.index_spec s.data.toList [c] with ⟨h1, _⟩ | ⟨i, h1, h2, h3, _⟩
  · exact h1
  · rw [hl] at h2
    by_cases hi : i = s.size
    · subst hi; rw [occ_end] at h3; cases h3
    · rw [h i (by omega)] at h3; cases h3
theorem index_hit (s : ByteArray) (c : UInt8) (i : Nat) (hi : i < s.size) (h : Lib.NoOcc s.data.toList [c] i) (hc : bt s i = (c.toNat : Int)) : Lib.index s.data.toList [c] = i := by
  have hl : s.data.toList.length = s.size := Array.length_toList
  have ho : Lib.occAt s.data.toList [c] i = true := by rw [occ_bt s c i hi]; exact decide_eq_true hc
  rcases Lib.index_spec s.data.toList [c] with ⟨_, h1⟩ | ⟨j, h1, h2, h3, h4⟩
  · rw [h1 i (by rw [hl]; omega)] at ho; cases ho
  · rcases Nat.lt_trichotomy i j with h5 | h5 | h5
    · rw [h4 i h5] at ho; cases ho
    · rw [h1, h5]
    · rw [h j h5] at h3; cases h3
theorem cut_at (s : ByteArray) (hs : s.size < 4611686018427387904) : ∀ (n i : Nat), s.size - i ≤ n → i ≤ s.size → Lib.NoOcc s.data.toList [61] i → Ev (fun k => salvorref6_cutAt.l0 k s 61 i) (cutK s, cutV s, cutH s)
  | n, i, hn, hi, hno => by
    by_cases hlt : i < s.size
    · have e1 : (i : Int) < (s.size : Int) := by omega
      have e2 : (0 : Int) ≤ (i : Int) := by omega
      have e3 : wrap64 ((i : Int) + 1) = ((i + 1 : Nat) : Int) := by unfold wrap64; omega
      by_cases hc : bt s i = 61
      · refine ⟨1, fun k hk => ?_⟩
        obtain ⟨k, rfl⟩ : ∃ k', k = k' + 1 := ⟨k - 1, by omega⟩
        show salvorref6_cutAt.l0 (k + 1) s 61 i = _
        have hx := index_hit s 61 i hlt hno hc
        have e4 : (i : Int) ≤ (s.size : Int) := by omega
        have e5 : (0 : Int) ≤ ((i + 1 : Nat) : Int) := by omega
        have e6 : ((i + 1 : Nat) : Int) ≤ (s.size : Int) := by omega
        rw [salvorref6_cutAt.l0, e3]
        simp only [if_pos e1, if_pos e2, if_pos hc, if_pos e4, if_pos e5, if_pos e6]
        unfold cutK cutV cutH Lib.cut
        rw [if_pos (by rw [hx]; omega), hx]
        refine congrArg some (Prod.ext ?_ (Prod.ext ?_ rfl))
        · exact Go.WideShapes.bytes_inj (by rw [Lib.extract_from_zero])
        · exact Go.WideShapes.bytes_inj (by rw [Int.toNat_natCast, Lib.extract_to_end]; simp)
      · cases n with
        | zero => omega
        | succ n =>
          obtain ⟨K, hK⟩ := cut_at s hs n (i + 1) (by omega) (by omega) (fun j hj => by
            by_cases hji : j = i
            · subst hji; rw [occ_bt s 61 j hlt]; exact decide_eq_false hc
            · exact hno j (by omega))
          refine ⟨K + 1, fun k hk => ?_⟩
          obtain ⟨k, rfl⟩ : ∃ k', k = k' + 1 := ⟨k - 1, by omega⟩
          show salvorref6_cutAt.l0 (k + 1) s 61 i = _
          rw [salvorref6_cutAt.l0, e3]
          simp only [if_pos e1, if_pos e2, if_neg hc]
          exact hK k (by omega)
    · have hi2 : i = s.size := by omega
      subst hi2
      refine ⟨1, fun k hk => ?_⟩
      obtain ⟨k, rfl⟩ : ∃ k', k = k' + 1 := ⟨k - 1, by omega⟩
      show salvorref6_cutAt.l0 (k + 1) s 61 _ = _
      have hx := index_miss s 61 hno
      have e1 : ¬ (s.size : Int) < (s.size : Int) := by omega
      rw [salvorref6_cutAt.l0]
      simp only [if_neg e1]
      unfold cutK cutV cutH Lib.cut
      rw [if_neg (by rw [hx]; omega)]
theorem cut_ev (s : ByteArray) (hs : s.size < 4611686018427387904) : Ev (fun k => salvorref6_cutAt.f k s 61) (cutK s, cutV s, cutH s) := cut_at s hs s.size 0 (by omega) (by omega) (Lib.NoOcc.zero _ _)
theorem scut (s : ByteArray) (hs : s.size < 4294967281) : strings_Cut.f s ⟨#[61]⟩ = some (cutK s, cutV s, cutH s) := by unfold strings_Cut.f; rw [if_pos hs]; rfl
end Go.Proofs.YtlginoicaeonhaaDoor.Pure
