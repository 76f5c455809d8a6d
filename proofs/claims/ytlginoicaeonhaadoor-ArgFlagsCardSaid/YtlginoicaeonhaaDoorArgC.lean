/- Plain laws: the pieces of a text parted at a byte, joined by it, are the text; none holds it. No program in sight. No conditions. -/
import Derived.Test.YtlginoicaeonhaaDoorPx0
import Derived.Test.YtlginoicaeonhaaDoorArgB
namespace Go.Proofs.YtlginoicaeonhaaDoor.Pure
open Go.RowKit Go.Proofs.YtlginoicaeonhaaDoorW.PrintWords Go.Proofs.YtlginoicaeonhaaDoorW.PrintLast Go.Proofs.YtlginoicaeonhaaDoor.P
set_option linter.unusedVariables false
set_option linter.unusedSimpArgs false
def jn (c : UInt8) : List (List UInt8) → List UInt8
  | [] => []
  | [x] => x
  | x :: y :: r => x ++ c :: jn c (y :: r)
theorem bt_data (s : ByteArray) (j : Nat) (hj : j < s.size) : bt s j = ((s.data.toList[j]'(by rw [Array.length_toList]; exact hj)).toNat : Int) := by
  have := bt_at s (j : Int) (by simpa using hj)
  rw [← this]
  simp
  rfl
theorem words_ok (c : UInt8) : ∀ (k : Nat) (s : ByteArray), Lib.countB s ⟨#[c]⟩ = k → jn c ((Lib.splitB ⟨#[c]⟩ 0 k s).map (·.data.toList)) = s.data.toList ∧ ∀ p ∈ Lib.splitB ⟨#[c]⟩ 0 k s, ∀ j : Nat, j < p.size → bt p j ≠ (c.toNat : Int)
  | k, s, hk => by
    have hl : s.data.toList.length = s.size := Array.length_toList
    rcases Lib.indexB_cases s ⟨#[c]⟩ with h | ⟨i, h, hi⟩
    · rw [Lib.splitB_miss _ _ _ _ h]
      refine ⟨rfl, fun p hp j hj e => ?_⟩
      obtain rfl := List.mem_singleton.1 hp
      rcases Lib.index_spec p.data.toList [c] with ⟨_, h2⟩ | ⟨i, h1, h2, h3, _⟩
      · have := h2 j (by rw [hl]; omega)
        rw [occ_bt p c j hj, decide_eq_false_iff_not] at this
        exact this e
      · have h' : Lib.index p.data.toList [c] = -1 := h
        omega
    · have hsz : (⟨#[c]⟩ : ByteArray).size = 1 := rfl
      rw [hsz] at hi
      have hc := Lib.countB_hit s ⟨#[c]⟩ i (by rw [hsz]; omega) h
      rw [hsz] at hc
      cases k with
      | zero => omega
      | succ k =>
        rw [Lib.splitB_hit _ _ _ _ _ h, hsz, Nat.add_zero]
        obtain ⟨h1, h2⟩ := words_ok c k (s.extract (i + 1) s.size) (by omega)
        have hix : Lib.index s.data.toList [c] = i := h
        have hno : Lib.NoOcc s.data.toList [c] i ∧ Lib.occAt s.data.toList [c] i = true := by
          rcases Lib.index_spec s.data.toList [c] with ⟨h3, _⟩ | ⟨j, h3, h4, h5, h6⟩
          · omega
          · obtain rfl : i = j := by omega
            exact ⟨h6, h5⟩
        obtain ⟨hno, hoc⟩ := hno
        rw [occ_bt s c i (by omega), decide_eq_true_iff] at hoc
        refine ⟨?_, fun p hp j hj => ?_⟩
        · have hne : Lib.splitB ⟨#[c]⟩ 0 k (s.extract (i + 1) s.size) ≠ [] := by
            intro e
            have := Lib.splitB_all ⟨#[c]⟩ (by rw [hsz]; omega) 0 k (s.extract (i + 1) s.size) (by omega)
            rw [e] at this; simp at this
          obtain ⟨y, r, hyr⟩ := List.exists_cons_of_ne_nil hne
          rw [hyr] at h1 ⊢
          simp only [List.map_cons] at h1 ⊢
          rw [jn, h1, Lib.extract_from_zero, Lib.extract_to_end]
          have hci : s.data.toList[i]'(by rw [hl]; omega) = c := by
            rw [bt_data s i (by omega)] at hoc
            exact UInt8.toNat_inj.1 (Int.ofNat_inj.1 hoc)
          conv => rhs; rw [← List.take_append_drop i s.data.toList]
          rw [List.drop_eq_getElem_cons (i := i) (l := s.data.toList) (by rw [hl]; omega), hci]
        · rcases List.mem_cons.1 hp with rfl | hp
          · have hps : (s.extract 0 i).size = i := by
              have := congrArg List.length (Lib.extract_from_zero s i)
              rw [Array.length_toList, List.length_take, hl] at this
              have h9 : (s.extract 0 i).size = (s.extract 0 i).data.size := rfl
              omega
            rw [hps] at hj
            have e1 : bt (s.extract 0 i) j = bt s j := by
              rw [bt_data _ j (by omega), bt_data s j (by omega)]
              simp only [Lib.extract_from_zero]
              rw [List.getElem_take]
            rw [e1]
            have := hno j hj
            rw [occ_bt s c j (by omega), decide_eq_false_iff_not] at this
            exact this
          · exact h2 p hp j hj
end Go.Proofs.YtlginoicaeonhaaDoor.Pure
