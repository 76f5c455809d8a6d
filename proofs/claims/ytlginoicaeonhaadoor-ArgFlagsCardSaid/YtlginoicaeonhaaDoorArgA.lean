/- Plain laws: what few, cutAt, letters, Find of the reference answer. No program in sight. No conditions. -/
import Derived.Test.YtlginoicaeonhaaDoorPx0
import Derived.Test.YtlginoicaeonhaaDoorPx2
import Derived.Test.YtlginoicaeonhaaDoorPx5
import Derived.Test.YtlginoicaeonhaaDoorPx8
import Derived.Test.YtlginoicaeonhaaDoorPx13
import Derived.Test.YtlginoicaeonhaaDoorPx14
import Derived.Test.YtlginoicaeonhaaDoorPx15
import Derived.Test.YtlginoicaeonhaaDoorFlF
namespace Go.Proofs.YtlginoicaeonhaaDoor.Pure
open Go.RowKit Go.Proofs.YtlginoicaeonhaaDoorW.PrintWords Go.Proofs.YtlginoicaeonhaaDoorW.PrintLast Go.Proofs.YtlginoicaeonhaaDoor.P
set_option linter.unusedVariables false
set_option linter.unusedSimpArgs false
theorem few_at (l : List ByteArray) (m : Int) (hm0 : 0 ≤ m) (hm : m ≤ 100) : ∀ (n i : Nat), 102 - i ≤ n → i ≤ l.length → (i : Int) ≤ m + 1 → ∃ b, Ev (fun k => salvorlaw9_few.l0 k l m i) b ∧ (b = true → (l.length : Int) ≤ m ∧ ∀ j : Nat, i ≤ j → j < l.length → (rdOf ByteArray.empty l j).size ≤ 100)
  | 0, i, h, hi, hi2 => by omega
  | n + 1, i, h, hi, hi2 => by
    by_cases hlt : i < l.length
    · by_cases hle : (i : Int) ≤ m
      · by_cases hbig : ((rdOf ByteArray.empty l i).size : Int) > 100
        · refine ⟨false, ⟨2, fun k hk => ?_⟩, fun e => by cases e⟩
          obtain ⟨k, rfl⟩ : ∃ k', k = k' + 2 := ⟨k - 2, by omega⟩
          show salvorlaw9_few.l0 (k + 2) l m i = _
          rw [salvorlaw9_few.l0, if_pos (by omega), salvorlaw9_few.j1, if_pos (by simpa using hle), if_pos (by omega), if_pos (by omega), if_pos hbig]
        · obtain ⟨b, ⟨K, hK⟩, hb⟩ := few_at l m hm0 hm n (i + 1) (by omega) (by omega) (by omega)
          refine ⟨b, ⟨K + 2, fun k hk => ?_⟩, fun e => ?_⟩
          · obtain ⟨k, rfl⟩ : ∃ k', k = k' + 2 := ⟨k - 2, by omega⟩
            show salvorlaw9_few.l0 (k + 2) l m i = _
            rw [salvorlaw9_few.l0, if_pos (by omega), salvorlaw9_few.j1, if_pos (by simpa using hle), if_pos (by omega), if_pos (by omega), if_neg hbig, show wrap64 ((i : Int) + 1) = ((i + 1 : Nat) : Int) from by unfold wrap64; omega]
            exact hK k (by omega)
          · obtain ⟨h1, h2⟩ := hb e
            refine ⟨h1, fun j hj1 hj2 => ?_⟩
            by_cases hji : j = i
            · subst hji; omega
            · exact h2 j (by omega) hj2
      · refine ⟨false, ⟨2, fun k hk => ?_⟩, fun e => by cases e⟩
        obtain ⟨k, rfl⟩ : ∃ k', k = k' + 2 := ⟨k - 2, by omega⟩
        show salvorlaw9_few.l0 (k + 2) l m i = _
        rw [salvorlaw9_few.l0, if_pos (by omega), salvorlaw9_few.j1, if_neg (by simpa using hle), decide_eq_false (by omega)]
    · refine ⟨decide ((l.length : Int) ≤ m), ⟨2, fun k hk => ?_⟩, fun e => ⟨of_decide_eq_true e, fun j h1 h2 => by omega⟩⟩
      obtain ⟨k, rfl⟩ : ∃ k', k = k' + 2 := ⟨k - 2, by omega⟩
      show salvorlaw9_few.l0 (k + 2) l m i = _
      rw [salvorlaw9_few.l0, if_neg (by omega), salvorlaw9_few.j1, if_neg (by simp)]
theorem rd_mem {l : List ByteArray} {P : ByteArray → Prop} (h : ∀ j : Nat, j < l.length → P (rdOf ByteArray.empty l j)) : ∀ s ∈ l, P s := by
  intro s hs
  obtain ⟨j, hj, rfl⟩ := List.getElem_of_mem hs
  have := h j hj
  simpa [rdOf, hj] using this
theorem few_ev (l : List ByteArray) (m : Int) (hm0 : 0 ≤ m) (hm : m ≤ 100) : ∃ b, Ev (fun k => salvorlaw9_few.f k l m) b ∧ (b = true → (l.length : Int) ≤ m ∧ ∀ s ∈ l, s.size ≤ 100) := by
  obtain ⟨b, h1, h2⟩ := few_at l m hm0 hm 102 0 (by omega) (by omega) (by omega)
  refine ⟨b, h1, fun e => ?_⟩
  obtain ⟨h3, h4⟩ := h2 e
  exact ⟨h3, rd_mem fun j hj => h4 j (Nat.zero_le _) hj⟩
theorem toList_nil (s : ByteArray) : s.toList = [] ↔ s.size = 0 := by
  rw [ByteArray.toList_eq]
  constructor
  · intro h
    have : s.data.toList.length = 0 := by rw [h]; rfl
    simpa using this
  · intro h
    have : s.data.toList.length = 0 := by simpa using h
    exact List.length_eq_zero_iff.1 this
theorem letters_at (s : ByteArray) (hs : s.size < 4611686018427387904) : ∀ (n i : Nat), s.size - i < n → i ≤ s.size → salvorref6_letters.l0 n s (i : Int) = arg_key.l0 n s s.size (i : Int)
  | 0, i, h, _ => by omega
  | n + 1, i, h, hi => by
    unfold arg_key.l0 salvorref6_letters.l0
    by_cases hlt : i < s.size
    · have e1 : (i : Int) < (s.size : Int) := by omega
      have e2 : (0 : Int) ≤ (i : Int) := by omega
      simp only [if_pos e1, if_pos e2]
      have ih := letters_at s hs n (i + 1) (by omega) (by omega)
      rw [show wrap64 ((i : Int) + 1) = ((i + 1 : Nat) : Int) from by unfold wrap64; omega]
      unfold arg_small.f
      by_cases h1 : bt s i < 97
      · have h1' : ¬ bt s i ≥ 97 := by omega
        simp only [if_pos h1, if_neg h1']; rfl
      · have h1' : bt s i ≥ 97 := by omega
        simp only [if_neg h1, if_pos h1', Option.bind_some]
        by_cases h2 : bt s i > 122
        · rw [if_pos h2, decide_eq_false (by omega)]; rfl
        · rw [if_neg h2, decide_eq_true (by omega), if_pos rfl, ih]
    · have e1 : ¬ (i : Int) < (s.size : Int) := by omega
      simp only [if_neg e1]
      by_cases h0 : s.size = 0
      · rw [if_neg (by omega), if_pos ((toList_nil s).2 h0)]
      · rw [if_pos (by omega), if_neg (fun e => h0 ((toList_nil s).1 e))]
theorem key_ev (s : ByteArray) (hs : s.size < 4611686018427387904) : Ev (fun k => arg_key.f k s) (keyB s) := Ev.of (arg_key.mono s) (key_eq s hs)
theorem letters_ev (s : ByteArray) (hs : s.size < 4611686018427387904) : Ev (fun k => salvorref6_letters.f k s) (keyB s) := by
  obtain ⟨K, hK⟩ := key_ev s hs
  refine ⟨K + s.size + 1, fun k hk => ?_⟩
  have h := letters_at s hs k 0 (by omega) (by omega)
  exact h.trans (hK k (by omega))
theorem find_at (l : List S31) (key : ByteArray) (hl : l.length < 4611686018427387904) : ∀ n : Nat, n ≤ l.length → Ev (fun k => salvorref6_Find.l0 k l key ((n : Int) - 1)) (arg_Find.g l key n)
  | 0, _ => ⟨1, fun k hk => by
      obtain ⟨k, rfl⟩ : ∃ k', k = k' + 1 := ⟨k - 1, by omega⟩
      show salvorref6_Find.l0 (k + 1) l key _ = _
      rw [salvorref6_Find.l0, if_neg (by omega)]; rfl⟩
  | n + 1, hn => by
    by_cases he : ((rd_T31 l n).f0).toList = key.toList
    · refine ⟨1, fun k hk => ?_⟩
      obtain ⟨k, rfl⟩ : ∃ k', k = k' + 1 := ⟨k - 1, by omega⟩
      show salvorref6_Find.l0 (k + 1) l key _ = _
      rw [show (((n + 1 : Nat) : Int) - 1) = (n : Int) from by omega, salvorref6_Find.l0, if_pos (by omega), if_pos (by omega), if_pos (by omega), if_pos he, arg_Find.g, if_pos he]
    · obtain ⟨K, hK⟩ := find_at l key hl n (by omega)
      refine ⟨K + 1, fun k hk => ?_⟩
      obtain ⟨k, rfl⟩ : ∃ k', k = k' + 1 := ⟨k - 1, by omega⟩
      show salvorref6_Find.l0 (k + 1) l key _ = _
      rw [show (((n + 1 : Nat) : Int) - 1) = (n : Int) from by omega, salvorref6_Find.l0, if_pos (by omega), if_pos (by omega), if_pos (by omega), if_neg he, arg_Find.g, if_neg he, show wrap64 ((n : Int) - 1) = (n : Int) - 1 from by unfold wrap64; omega]
      exact hK k (by omega)
theorem find_ev (l : List S31) (key : ByteArray) (hl : l.length < 4611686018427387904) : Ev (fun k => salvorref6_Find.f k l key) (arg_Find.g l key l.length) := by
  have h := find_at l key hl l.length (Nat.le_refl _)
  refine Ev.congr (fun k => ?_) h
  unfold salvorref6_Find.f
  rw [show wrap64 ((l.length : Int) - 1) = (l.length : Int) - 1 from by unfold wrap64; omega]
theorem has_ev (l : List S31) (key : ByteArray) (hl : l.length < 4611686018427387904) : Ev (fun k => salvorref6_has.f k l key) (arg_Find.g l key l.length).2 := Ev.bind (find_ev l key hl) (Ev.now _)
end Go.Proofs.YtlginoicaeonhaaDoor.Pure
