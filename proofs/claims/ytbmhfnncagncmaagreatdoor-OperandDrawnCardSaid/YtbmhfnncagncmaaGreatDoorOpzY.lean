import Derived.Test.YtbmhfnncagncmaaGreatDoorPx4
import Derived.Test.YtbmhfnncagncmaaGreatDoorPx5
import Derived.Test.YtbmhfnncagncmaaGreatDoorPx12
import Derived.Test.YtbmhfnncagncmaaGreatDoorPx16
import Derived.Test.YtbmhfnncagncmaaGreatDoorPx17
import Derived.Test.YtbmhfnncagncmaaGreatDoorPx19
import Derived.Lib.SplitLaws
import Derived.Lib.SmallJoins
import Derived.Test.YtbmhfnncagncmaaGreatDoorPx25
section
namespace Go.Proofs.YtbmhfnncagncmaaGreatDoor.Pure
open Go.RowKit Go.Proofs.YtbmhfnncagncmaaGreatDoorW.PrintWords Go.Proofs.YtbmhfnncagncmaaGreatDoorW.PrintLast Go.Proofs.YtbmhfnncagncmaaGreatDoor.P
set_option linter.unusedVariables false
set_option linter.unusedSimpArgs false
def cutK (s : ByteArray) : ByteArray := ⟨(Lib.cut s.data.toList [61]).1.toArray⟩
def cutV (s : ByteArray) : ByteArray := ⟨(Lib.cut s.data.toList [61]).2.1.toArray⟩
theorem cutK_size (s : ByteArray) : (cutK s).size ≤ s.size := by
 unfold cutK Lib.cut
 split
 ·show (List.toArray _).size ≤ s.data.size
  rw [List.size_toArray, List.length_take]
  have : s.data.toList.length = s.data.size := Array.length_toList
  omega
 ·exact Nat.le_of_eq (by show (List.toArray _).size = s.data.size; simp)
def keyB (s : ByteArray) : Bool := (arg_key.f (s.size + 1) s).getD false
theorem key_some (s : ByteArray) (hs : s.size < 4611686018427387904) : ∀ n i : Nat, s.size - i < n → i ≤ s.size → (arg_key.l0 n s s.size (i : Int)).isSome = true
 | 0, i, h, _ => by omega
 | n + 1, i, h, hi => by
  unfold arg_key.l0
  by_cases hlt : i < s.size
  ·rw [if_pos (by omega), if_pos (by omega), if_pos (by omega)]
   have ih := key_some s hs n (i + 1) (by omega) (by omega)
   rw [show wrap64 ((i : Int) + 1) = ((i + 1 : Nat) : Int) from by unfold wrap64; omega]
   unfold arg_small.f
   by_cases h1 : bt s i ≥ 97
   ·rw [if_pos h1]
    simp only [Option.bind_some]
    split
    ·exact ih
    ·rfl
   ·rw [if_neg h1]; rfl
  ·rw [if_neg (by omega)]
   split <;> rfl
theorem key_eq (s : ByteArray) (hs : s.size < 4611686018427387904) : arg_key.f (s.size + 1) s = some (keyB s) := by
 have h := key_some s hs (s.size + 1) 0 (by omega) (by omega)
 unfold keyB
 have h2 : (arg_key.f (s.size + 1) s).isSome = true := h
 obtain ⟨b, hb⟩ := Option.isSome_iff_exists.1 h2
 rw [hb]; rfl
theorem toList_nil (s : ByteArray) : s.toList = [] ↔ s.size = 0 := by
 rw [ByteArray.toList_eq]
 constructor
 ·intro h
  have : s.data.toList.length = 0 := by rw [h]; rfl
  simpa using this
 ·intro h
  have : s.data.toList.length = 0 := by simpa using h
  exact List.length_eq_zero_iff.1 this
theorem letters_at (s : ByteArray) (hs : s.size < 4611686018427387904) : ∀ (n i : Nat), s.size - i < n → i ≤ s.size → salvorref6_letters.l0 n s (i : Int) = arg_key.l0 n s s.size (i : Int)
 | 0, i, h, _ => by omega
 | n + 1, i, h, hi => by
  unfold arg_key.l0 salvorref6_letters.l0
  by_cases hlt : i < s.size
  ·have e1 : (i : Int) < (s.size : Int) := by omega
   have e2 : (0 : Int) ≤ (i : Int) := by omega
   simp only [if_pos e1, if_pos e2]
   have ih := letters_at s hs n (i + 1) (by omega) (by omega)
   rw [show wrap64 ((i : Int) + 1) = ((i + 1 : Nat) : Int) from by unfold wrap64; omega]
   unfold arg_small.f
   by_cases h1 : bt s i < 97
   ·have h1' : ¬ bt s i ≥ 97 := by omega
    simp only [if_pos h1, if_neg h1']; rfl
   ·have h1' : bt s i ≥ 97 := by omega
    simp only [if_neg h1, if_pos h1', Option.bind_some]
    by_cases h2 : bt s i > 122
    ·rw [if_pos h2, decide_eq_false (by omega)]; rfl
    ·rw [if_neg h2, decide_eq_true (by omega), if_pos rfl, ih]
  ·have e1 : ¬ (i : Int) < (s.size : Int) := by omega
   simp only [if_neg e1]
   by_cases h0 : s.size = 0
   ·rw [if_neg (by omega), if_pos ((toList_nil s).2 h0)]
   ·rw [if_pos (by omega), if_neg (fun e => h0 ((toList_nil s).1 e))]
theorem key_ev (s : ByteArray) (hs : s.size < 4611686018427387904) : Ev (fun k => arg_key.f k s) (keyB s) := Ev.of (arg_key.mono s) (key_eq s hs)
theorem letters_ev (s : ByteArray) (hs : s.size < 4611686018427387904) : Ev (fun k => salvorref6_letters.f k s) (keyB s) := by
 obtain ⟨K, hK⟩ := key_ev s hs
 refine ⟨K + s.size + 1, fun k hk => ?_⟩
 have h := letters_at s hs k 0 (by omega) (by omega)
 exact h.trans (hK k (by omega))
theorem find_at (l : List S68) (key : ByteArray) (hl : l.length < 4611686018427387904) : ∀ n : Nat, n ≤ l.length → Ev (fun k => salvorref6_Find.l0 k l key ((n : Int) - 1)) (arg_Find.g l key n)
 | 0, _ => ⟨1, fun k hk => by
   obtain ⟨k, rfl⟩ : ∃ k', k = k' + 1 := ⟨k - 1, by omega⟩
   show salvorref6_Find.l0 (k + 1) l key _ = _
   rw [salvorref6_Find.l0, if_neg (by omega)]; rfl⟩
 | n + 1, hn => by
  by_cases he : ((rd_T68 l n).f0).toList = key.toList
  ·refine ⟨1, fun k hk => ?_⟩
   obtain ⟨k, rfl⟩ : ∃ k', k = k' + 1 := ⟨k - 1, by omega⟩
   show salvorref6_Find.l0 (k + 1) l key _ = _
   rw [show (((n + 1 : Nat) : Int) - 1) = (n : Int) from by omega, salvorref6_Find.l0, if_pos (by omega), if_pos (by omega), if_pos (by omega), if_pos he, arg_Find.g, if_pos he]
  ·obtain ⟨K, hK⟩ := find_at l key hl n (by omega)
   refine ⟨K + 1, fun k hk => ?_⟩
   obtain ⟨k, rfl⟩ : ∃ k', k = k' + 1 := ⟨k - 1, by omega⟩
   show salvorref6_Find.l0 (k + 1) l key _ = _
   rw [show (((n + 1 : Nat) : Int) - 1) = (n : Int) from by omega, salvorref6_Find.l0, if_pos (by omega), if_pos (by omega), if_pos (by omega), if_neg he, arg_Find.g, if_neg he, show wrap64 ((n : Int) - 1) = (n : Int) - 1 from by unfold wrap64; omega]
   exact hK k (by omega)
theorem find_ev (l : List S68) (key : ByteArray) (hl : l.length < 4611686018427387904) : Ev (fun k => salvorref6_Find.f k l key) (arg_Find.g l key l.length) := by
 have h := find_at l key hl l.length (Nat.le_refl _)
 refine Ev.congr (fun k => ?_) h
 unfold salvorref6_Find.f
 rw [show wrap64 ((l.length : Int) - 1) = (l.length : Int) - 1 from by unfold wrap64; omega]
theorem has_ev (l : List S68) (key : ByteArray) (hl : l.length < 4611686018427387904) : Ev (fun k => salvorref6_has.f k l key) (arg_Find.g l key l.length).2 := Ev.bind (find_ev l key hl) (Ev.now _)
def cutH (s : ByteArray) : Bool := (Lib.cut s.data.toList [61]).2.2
theorem occ_bt (s : ByteArray) (c : UInt8) (j : Nat) (hj : j < s.size) : Lib.occAt s.data.toList [c] j = decide (bt s j = (c.toNat : Int)) := by
 have hl : s.data.toList.length = s.size := Array.length_toList
 unfold Lib.occAt
 rw [List.drop_eq_getElem_cons (by rw [hl]; exact hj)]
 have e : bt s j = ((s.data.toList[j]'(by rw [hl]; exact hj)).toNat : Int) := by
  have := bt_at s (j : Int) (by simpa using hj)
  rw [← this]
  simp
  rfl
 rw [e]
 generalize s.data.toList[j] = a
 simp only [List.isPrefixOf, Bool.and_true]
 by_cases h : c = a
 ·subst h; simp
 ·have h2 : ¬ (a.toNat : Int) = (c.toNat : Int) := fun e => h (UInt8.toNat_inj.1 (by omega)).symm
  simp [h, h2]
theorem occ_end (s : ByteArray) (c : UInt8) : Lib.occAt s.data.toList [c] s.size = false := by
 have hl : s.data.toList.length = s.size := Array.length_toList
 unfold Lib.occAt
 rw [List.drop_of_length_le (by rw [hl]; exact Nat.le_refl _)]; rfl
theorem index_miss (s : ByteArray) (c : UInt8) (h : Lib.NoOcc s.data.toList [c] s.size) : Lib.index s.data.toList [c] = -1 := by
 have hl : s.data.toList.length = s.size := Array.length_toList
 rcases Lib.index_spec s.data.toList [c] with ⟨h1, _⟩ | ⟨i, h1, h2, h3, _⟩
 ·exact h1
 ·rw [hl] at h2
  by_cases hi : i = s.size
  ·subst hi; rw [occ_end] at h3; cases h3
  ·rw [h i (by omega)] at h3; cases h3
theorem index_hit (s : ByteArray) (c : UInt8) (i : Nat) (hi : i < s.size) (h : Lib.NoOcc s.data.toList [c] i) (hc : bt s i = (c.toNat : Int)) : Lib.index s.data.toList [c] = i := by
 have hl : s.data.toList.length = s.size := Array.length_toList
 have ho : Lib.occAt s.data.toList [c] i = true := by rw [occ_bt s c i hi]; exact decide_eq_true hc
 rcases Lib.index_spec s.data.toList [c] with ⟨_, h1⟩ | ⟨j, h1, h2, h3, h4⟩
 ·rw [h1 i (by rw [hl]; omega)] at ho; cases ho
 ·rcases Nat.lt_trichotomy i j with h5 | h5 | h5
  ·rw [h4 i h5] at ho; cases ho
  ·rw [h1, h5]
  ·rw [h j h5] at h3; cases h3
theorem cut_at (s : ByteArray) (hs : s.size < 4611686018427387904) : ∀ (n i : Nat), s.size - i ≤ n → i ≤ s.size → Lib.NoOcc s.data.toList [61] i → Ev (fun k => salvorref6_cutAt.l0 k s 61 i) (cutK s, cutV s, cutH s)
 | n, i, hn, hi, hno => by
  by_cases hlt : i < s.size
  ·have e1 : (i : Int) < (s.size : Int) := by omega
   have e2 : (0 : Int) ≤ (i : Int) := by omega
   have e3 : wrap64 ((i : Int) + 1) = ((i + 1 : Nat) : Int) := by unfold wrap64; omega
   by_cases hc : bt s i = 61
   ·refine ⟨1, fun k hk => ?_⟩
    obtain ⟨k, rfl⟩ : ∃ k', k = k' + 1 := ⟨k - 1, by omega⟩
    show salvorref6_cutAt.l0 (k + 1) s 61 i = _
    have hx := index_hit s 61 i hlt hno hc
    have e4 : (i : Int) ≤ (s.size : Int) := by omega
    have e5 : (0 : Int) ≤ ((i + 1 : Nat) : Int) := by omega
    have e6 : ((i + 1 : Nat) : Int) ≤ (s.size : Int) := by omega
    rw [salvorref6_cutAt.l0, e3]
    simp only [if_pos e1, if_pos e2, if_pos hc, if_pos e4, if_pos e5, if_pos e6]
    unfold cutK cutV cutH Lib.cut
    rw [if_pos (by rw [hx]; omega), hx]
    refine congrArg some (Prod.ext ?_ (Prod.ext ?_ rfl))
    ·exact Go.WideShapes.bytes_inj (by rw [Lib.extract_from_zero])
    ·exact Go.WideShapes.bytes_inj (by rw [Int.toNat_natCast, Lib.extract_to_end]; simp)
   ·cases n with
    | zero => omega
    | succ n =>
     obtain ⟨K, hK⟩ := cut_at s hs n (i + 1) (by omega) (by omega) (fun j hj => by
      by_cases hji : j = i
      ·subst hji; rw [occ_bt s 61 j hlt]; exact decide_eq_false hc
      ·exact hno j (by omega))
     refine ⟨K + 1, fun k hk => ?_⟩
     obtain ⟨k, rfl⟩ : ∃ k', k = k' + 1 := ⟨k - 1, by omega⟩
     show salvorref6_cutAt.l0 (k + 1) s 61 i = _
     rw [salvorref6_cutAt.l0, e3]
     simp only [if_pos e1, if_pos e2, if_neg hc]
     exact hK k (by omega)
  ·have hi2 : i = s.size := by omega
   subst hi2
   refine ⟨1, fun k hk => ?_⟩
   obtain ⟨k, rfl⟩ : ∃ k', k = k' + 1 := ⟨k - 1, by omega⟩
   show salvorref6_cutAt.l0 (k + 1) s 61 _ = _
   have hx := index_miss s 61 hno
   have e1 : ¬ (s.size : Int) < (s.size : Int) := by omega
   rw [salvorref6_cutAt.l0]
   simp only [if_neg e1]
   unfold cutK cutV cutH Lib.cut
   rw [if_neg (by rw [hx]; omega)]
theorem cut_ev (s : ByteArray) (hs : s.size < 4611686018427387904) : Ev (fun k => salvorref6_cutAt.f k s 61) (cutK s, cutV s, cutH s) := cut_at s hs s.size 0 (by omega) (by omega) (Lib.NoOcc.zero _ _)
theorem scut (s : ByteArray) (hs : s.size < 4294967281) : strings_Cut.f s ⟨#[61]⟩ = some (cutK s, cutV s, cutH s) := by unfold strings_Cut.f; rw [if_pos hs]; rfl
def jn (c : UInt8) : List (List UInt8) → List UInt8
 | [] => []
 | [x] => x
 | x :: y :: r => x ++ c :: jn c (y :: r)
theorem bt_data (s : ByteArray) (j : Nat) (hj : j < s.size) : bt s j = ((s.data.toList[j]'(by rw [Array.length_toList]; exact hj)).toNat : Int) := by
 have := bt_at s (j : Int) (by simpa using hj)
 rw [← this]
 simp
 rfl
theorem words_ok (c : UInt8) : ∀ (k : Nat) (s : ByteArray), Lib.countB s ⟨#[c]⟩ = k → jn c ((Lib.splitB ⟨#[c]⟩ 0 k s).map (·.data.toList)) = s.data.toList ∧ ∀ p ∈ Lib.splitB ⟨#[c]⟩ 0 k s, ∀ j : Nat, j < p.size → bt p j ≠ (c.toNat : Int)
 | k, s, hk => by
  have hl : s.data.toList.length = s.size := Array.length_toList
  rcases Lib.indexB_cases s ⟨#[c]⟩ with h | ⟨i, h, hi⟩
  ·rw [Lib.splitB_miss _ _ _ _ h]
   refine ⟨rfl, fun p hp j hj e => ?_⟩
   obtain rfl := List.mem_singleton.1 hp
   rcases Lib.index_spec p.data.toList [c] with ⟨_, h2⟩ | ⟨i, h1, h2, h3, _⟩
   ·have := h2 j (by rw [hl]; omega)
    rw [occ_bt p c j hj, decide_eq_false_iff_not] at this
    exact this e
   ·have h' : Lib.index p.data.toList [c] = -1 := h
    omega
  ·have hsz : (⟨#[c]⟩ : ByteArray).size = 1 := rfl
   rw [hsz] at hi
   have hc := Lib.countB_hit s ⟨#[c]⟩ i (by rw [hsz]; omega) h
   rw [hsz] at hc
   cases k with
   | zero => omega
   | succ k =>
    rw [Lib.splitB_hit _ _ _ _ _ h, hsz, Nat.add_zero]
    obtain ⟨h1, h2⟩ := words_ok c k (s.extract (i + 1) s.size) (by omega)
    have hix : Lib.index s.data.toList [c] = i := h
    have hno : Lib.NoOcc s.data.toList [c] i ∧ Lib.occAt s.data.toList [c] i = true := by
     rcases Lib.index_spec s.data.toList [c] with ⟨h3, _⟩ | ⟨j, h3, h4, h5, h6⟩
     ·omega
     ·obtain rfl : i = j := by omega
      exact ⟨h6, h5⟩
    obtain ⟨hno, hoc⟩ := hno
    rw [occ_bt s c i (by omega), decide_eq_true_iff] at hoc
    refine ⟨?_, fun p hp j hj => ?_⟩
    ·have hne : Lib.splitB ⟨#[c]⟩ 0 k (s.extract (i + 1) s.size) ≠ [] := by
      intro e
      have := Lib.splitB_all ⟨#[c]⟩ (by rw [hsz]; omega) 0 k (s.extract (i + 1) s.size) (by omega)
      rw [e] at this; simp at this
     obtain ⟨y, r, hyr⟩ := List.exists_cons_of_ne_nil hne
     rw [hyr] at h1 ⊢
     simp only [List.map_cons] at h1 ⊢
     rw [jn, h1, Lib.extract_from_zero, Lib.extract_to_end]
     have hci : s.data.toList[i]'(by rw [hl]; omega) = c := by
      rw [bt_data s i (by omega)] at hoc
      exact UInt8.toNat_inj.1 (Int.ofNat_inj.1 hoc)
     conv => rhs; rw [← List.take_append_drop i s.data.toList]
     rw [List.drop_eq_getElem_cons (i := i) (l := s.data.toList) (by rw [hl]; omega), hci]
    ·rcases List.mem_cons.1 hp with rfl | hp
     ·have hps : (s.extract 0 i).size = i := by
       have := congrArg List.length (Lib.extract_from_zero s i)
       rw [Array.length_toList, List.length_take, hl] at this
       have h9 : (s.extract 0 i).size = (s.extract 0 i).data.size := rfl
       omega
      rw [hps] at hj
      have e1 : bt (s.extract 0 i) j = bt s j := by
       rw [bt_data _ j (by omega), bt_data s j (by omega)]
       simp only [Lib.extract_from_zero]
       rw [List.getElem_take]
      rw [e1]
      have := hno j hj
      rw [occ_bt s c j (by omega), decide_eq_false_iff_not] at this
      exact this
     ·exact h2 p hp j hj
def opsR (l : List ByteArray) : Nat → Nat → List S68 → List S68 × Bool
 | 0, _, out => (out, true)
 | n + 1, i, out =>
  if cutH (rdOf ByteArray.empty l i) = true ∧ keyB (cutK (rdOf ByteArray.empty l i)) = true ∧ ((arg_Find.g out (cutK (rdOf ByteArray.empty l i)) out.length).2 = true → (cutK (rdOf ByteArray.empty l i)).toList = [99, 111, 110, 118] ∨ (cutK (rdOf ByteArray.empty l i)).toList = [105, 102, 108, 97, 103])
  then opsR l n (i + 1) (out ++ [⟨cutK (rdOf ByteArray.empty l i), cutV (rdOf ByteArray.empty l i)⟩])
  else ([], false)
theorem ops_at (l : List ByteArray) (hl : l.length ≤ 60) (hs : ∀ j : Nat, j < l.length → (rdOf ByteArray.empty l j).size ≤ 1000) : ∀ n i : Nat, n = l.length - i → i ≤ l.length → ∀ out : List S68, out.length ≤ i → Ev (fun k => arg_Operands.l0 k out l l.length i) (opsR l n i out) ∧ Ev (fun k => salvorref6_Operands.l0 k l out i) (opsR l n i out) ∧ (opsR l n i out).1.length ≤ 60
 | 0, i, hn, hi, out, ho => by
  have e1 : ¬ (i : Int) < (l.length : Int) := by omega
  refine ⟨⟨1, fun k hk => ?_⟩, ⟨1, fun k hk => ?_⟩, by show out.length ≤ 60; omega⟩
  ·obtain ⟨k, rfl⟩ : ∃ k', k = k' + 1 := ⟨k - 1, by omega⟩
   show arg_Operands.l0 (k + 1) out l l.length i = _
   rw [arg_Operands.l0, if_neg e1]; rfl
  ·obtain ⟨k, rfl⟩ : ∃ k', k = k' + 1 := ⟨k - 1, by omega⟩
   show salvorref6_Operands.l0 (k + 1) l out i = _
   rw [salvorref6_Operands.l0, if_neg e1]; rfl
 | n + 1, i, hn, hi, out, ho => by
  have e1 : (i : Int) < (l.length : Int) := by omega
  have e2 : (0 : Int) ≤ (i : Int) := by omega
  have e3 : wrap64 ((i : Int) + 1) = ((i + 1 : Nat) : Int) := by unfold wrap64; omega
  have hsz := hs i (by omega)
  obtain ⟨s, hsd⟩ : ∃ s, rdOf ByteArray.empty l (i : Int) = s := ⟨_, rfl⟩
  rw [hsd] at hsz
  rw [opsR, hsd]
  have hck := cutK_size s
  have HS := scut s (by omega)
  obtain ⟨Kc, hKc⟩ := cut_ev s (by omega)
  obtain ⟨Kk, hKk⟩ := key_ev (cutK s) (by omega)
  obtain ⟨Kl, hKl⟩ := letters_ev (cutK s) (by omega)
  obtain ⟨Kh, hKh⟩ := has_ev out (cutK s) (by omega)
  obtain ⟨⟨K1, h1⟩, ⟨K2, h2⟩, h3⟩ := ops_at l hl hs n (i + 1) (by omega) (by omega) (out ++ [⟨cutK s, cutV s⟩]) (by simp; omega)
  replace hKc : ∀ k, Kc ≤ k → salvorref6_cutAt.f k s 61 = some (cutK s, cutV s, cutH s) := hKc
  replace hKk : ∀ k, Kk ≤ k → arg_key.f k (cutK s) = some (keyB (cutK s)) := hKk
  replace hKl : ∀ k, Kl ≤ k → salvorref6_letters.f k (cutK s) = some (keyB (cutK s)) := hKl
  replace hKh : ∀ k, Kh ≤ k → salvorref6_has.f k out (cutK s) = some (arg_Find.g out (cutK s) out.length).2 := hKh
  have hFind : arg_Find.f out (cutK s) = some (arg_Find.g out (cutK s) out.length) := rfl
  have hA : ∀ k, arg_Operands.l0 (k + 2) out l l.length i = if cutH s = true then ((arg_key.f (k + 1) (cutK s)).bind fun t => (arg_Operands.j1 (k + 1) out (cutK s) (cutV s) l l.length i (!t))) else (arg_Operands.j1 (k + 1) out (cutK s) (cutV s) l l.length i true) := fun k => by
   rw [arg_Operands.l0, if_pos e1, if_pos e2, if_pos e1, hsd, HS]; rfl
  have hJt : ∀ k, arg_Operands.j1 (k + 1) out (cutK s) (cutV s) l l.length i true = some ([], false) := fun k => by rw [arg_Operands.j1, if_pos rfl]
  have hB : ∀ k, Kc ≤ k → salvorref6_Operands.l0 (k + 1) l out i = if cutH s = true then ((salvorref6_letters.f k (cutK s)).bind fun t169 => (if t169 = true then ((salvorref6_has.f k out (cutK s)).bind fun t170 => (if t170 = true then (if (cutK s).toList = ([99, 111, 110, 118] : List UInt8) then (salvorref6_Operands.l0 k l (out ++ [(⟨cutK s, cutV s⟩ : S68)]) ((i + 1 : Nat) : Int)) else (if (cutK s).toList = ([105, 102, 108, 97, 103] : List UInt8) then (salvorref6_Operands.l0 k l (out ++ [(⟨cutK s, cutV s⟩ : S68)]) ((i + 1 : Nat) : Int)) else (some (([] : List (S68)), false)))) else (salvorref6_Operands.l0 k l (out ++ [(⟨cutK s, cutV s⟩ : S68)]) ((i + 1 : Nat) : Int)))) else (some (([] : List (S68)), false)))) else (some (([] : List (S68)), false)) := fun k hk => by
   have hlen : out.length < 4398046511104 := by omega
   rw [salvorref6_Operands.l0, if_pos e1, if_pos e2, hsd, hKc k hk, e3]
   simp only [Option.bind_some, if_pos hlen]
  have hJf : ∀ k, arg_Operands.j1 (k + 1) out (cutK s) (cutV s) l l.length i false = if (arg_Find.g out (cutK s) out.length).2 = true then (if (cutK s).toList = ([99, 111, 110, 118] : List UInt8) then (arg_Operands.l0 k (out ++ [(⟨cutK s, cutV s⟩ : S68)]) l l.length ((i + 1 : Nat) : Int)) else (if (cutK s).toList = ([105, 102, 108, 97, 103] : List UInt8) then (arg_Operands.l0 k (out ++ [(⟨cutK s, cutV s⟩ : S68)]) l l.length ((i + 1 : Nat) : Int)) else (some (([] : List (S68)), false)))) else (arg_Operands.l0 k (out ++ [(⟨cutK s, cutV s⟩ : S68)]) l l.length ((i + 1 : Nat) : Int)) := fun k => by
   have hlen : out.length < 4398046511104 := by omega
   rw [arg_Operands.j1, if_neg (by simp), hFind, e3]
   simp only [Option.bind_some, if_pos hlen]
  generalize (arg_Find.g out (cutK s) out.length).2 = fnd at hKh hJf ⊢
  clear HS hFind
  by_cases hc : cutH s = true
  ·by_cases hk : keyB (cutK s) = true
   ·by_cases hf : fnd = true → (cutK s).toList = [99, 111, 110, 118] ∨ (cutK s).toList = [105, 102, 108, 97, 103]
    ·rw [if_pos ⟨hc, hk, hf⟩]
     refine ⟨⟨K1 + Kk + 2, fun k hkk => ?_⟩, ⟨K2 + Kc + Kl + Kh + 1, fun k hkk => ?_⟩, h3⟩
     ·obtain ⟨k, rfl⟩ : ∃ k', k = k' + 2 := ⟨k - 2, by omega⟩
      show arg_Operands.l0 (k + 2) out l l.length i = _
      rw [hA k, if_pos hc, hKk (k + 1) (by omega), hk]
      show arg_Operands.j1 (k + 1) out (cutK s) (cutV s) l l.length i false = _
      rw [hJf k]
      have hg := h1 k (by omega)
      by_cases h5 : fnd = true
      ·rw [if_pos h5]
       by_cases h6 : (cutK s).toList = [99, 111, 110, 118]
       ·rw [if_pos h6]; exact hg
       ·rw [if_neg h6, if_pos ((hf h5).resolve_left h6)]; exact hg
      ·rw [if_neg h5]; exact hg
     ·obtain ⟨k, rfl⟩ : ∃ k', k = k' + 1 := ⟨k - 1, by omega⟩
      show salvorref6_Operands.l0 (k + 1) l out i = _
      rw [hB k (by omega), if_pos hc, hKl k (by omega), hk]
      simp only [Option.bind_some, if_true]
      rw [hKh k (by omega)]
      simp only [Option.bind_some]
      have hg := h2 k (by omega)
      by_cases h5 : fnd = true
      ·rw [if_pos h5]
       by_cases h6 : (cutK s).toList = [99, 111, 110, 118]
       ·rw [if_pos h6]; exact hg
       ·rw [if_neg h6, if_pos ((hf h5).resolve_left h6)]; exact hg
      ·rw [if_neg h5]; exact hg
    ·rw [if_neg (fun h => hf h.2.2)]
     have h5 : fnd = true := by
      cases fnd with
      | true => rfl
      | false => exact absurd (fun e => by cases e) hf
     have h6 : ¬ (cutK s).toList = [99, 111, 110, 118] := fun e => hf fun _ => .inl e
     have h7 : ¬ (cutK s).toList = [105, 102, 108, 97, 103] := fun e => hf fun _ => .inr e
     refine ⟨⟨Kk + 2, fun k hkk => ?_⟩, ⟨Kc + Kl + Kh + 1, fun k hkk => ?_⟩, by simp⟩
     ·obtain ⟨k, rfl⟩ : ∃ k', k = k' + 2 := ⟨k - 2, by omega⟩
      show arg_Operands.l0 (k + 2) out l l.length i = _
      rw [hA k, if_pos hc, hKk (k + 1) (by omega), hk]
      show arg_Operands.j1 (k + 1) out (cutK s) (cutV s) l l.length i false = _
      rw [hJf k, if_pos h5, if_neg h6, if_neg h7]
     ·obtain ⟨k, rfl⟩ : ∃ k', k = k' + 1 := ⟨k - 1, by omega⟩
      show salvorref6_Operands.l0 (k + 1) l out i = _
      rw [hB k (by omega), if_pos hc, hKl k (by omega), hk]
      simp only [Option.bind_some, if_true]
      rw [hKh k (by omega)]
      simp only [Option.bind_some]
      rw [if_pos h5, if_neg h6, if_neg h7]
   ·rw [if_neg (fun h => hk h.2.1)]
    have hk2 : keyB (cutK s) = false := by simpa using hk
    refine ⟨⟨Kk + 2, fun k hkk => ?_⟩, ⟨Kc + Kl + 1, fun k hkk => ?_⟩, by simp⟩
    ·obtain ⟨k, rfl⟩ : ∃ k', k = k' + 2 := ⟨k - 2, by omega⟩
     show arg_Operands.l0 (k + 2) out l l.length i = _
     rw [hA k, if_pos hc, hKk (k + 1) (by omega), hk2]
     exact hJt k
    ·obtain ⟨k, rfl⟩ : ∃ k', k = k' + 1 := ⟨k - 1, by omega⟩
     show salvorref6_Operands.l0 (k + 1) l out i = _
     rw [hB k (by omega), if_pos hc, hKl k (by omega), hk2]
     rfl
  ·rw [if_neg (fun h => hc h.1)]
   refine ⟨⟨2, fun k hkk => ?_⟩, ⟨Kc + 1, fun k hkk => ?_⟩, by simp⟩
   ·obtain ⟨k, rfl⟩ : ∃ k', k = k' + 2 := ⟨k - 2, by omega⟩
    show arg_Operands.l0 (k + 2) out l l.length i = _
    rw [hA k, if_neg hc]
    exact hJt k
   ·obtain ⟨k, rfl⟩ : ∃ k', k = k' + 1 := ⟨k - 1, by omega⟩
    show salvorref6_Operands.l0 (k + 1) l out i = _
    rw [hB k (by omega), if_neg hc]
theorem ws (n : Nat) (h : n < 4611686018427387904) : wrap64 ((n : Int) + 1) = ((n + 1 : Nat) : Int) := by unfold wrap64; omega
theorem scan (s : ByteArray) (hs : s.size < 4611686018427387904) (c : Int) (m : Nat) (hm : m ≤ s.size) (hno : ∀ j : Nat, j < m → bt s j ≠ c) (r : ByteArray × ByteArray × Bool) (h : Ev (fun k => salvorref6_cutAt.l0 k s c m) r) : ∀ d j : Nat, m - j = d → j ≤ m → Ev (fun k => salvorref6_cutAt.l0 k s c j) r := by
 intro d
 induction d with
 | zero => intro j hd hj; obtain rfl : j = m := by omega
           exact h
 | succ d ih =>
  intro j hd hj
  refine Ev.step (f := fun k => salvorref6_cutAt.l0 k s c ((j + 1 : Nat) : Int)) (fun k => ?_) (ih (j + 1) (by omega) (by omega))
  rw [salvorref6_cutAt.l0, if_pos (by omega), if_pos (by omega), if_neg (hno j (by omega)), ws j (by omega)]
theorem cut_miss (s : ByteArray) (hs : s.size < 4611686018427387904) (c : UInt8) (h : Lib.indexB s ⟨#[c]⟩ = -1) : Ev (fun k => salvorref6_cutAt.f k s (c.toNat : Int)) (s, ⟨#[]⟩, false) := by
 have hl : s.data.toList.length = s.size := Array.length_toList
 have hno : ∀ j : Nat, j < s.size → bt s j ≠ (c.toNat : Int) := by
  intro j hj e
  rcases Lib.index_spec s.data.toList [c] with ⟨_, h2⟩ | ⟨i, h1, h2, h3, _⟩
  ·have := h2 j (by rw [hl]; omega)
   rw [occ_bt s c j hj, decide_eq_false_iff_not] at this
   exact this e
  ·have h' : Lib.index s.data.toList [c] = -1 := h
   omega
 unfold salvorref6_cutAt.f
 refine scan s hs _ s.size (Nat.le_refl _) hno _ ?_ s.size 0 (by omega) (by omega)
 exact Ev.step (f := fun _ => some (s, ⟨#[]⟩, false)) (fun k => by rw [salvorref6_cutAt.l0, if_neg (by omega)]) (Ev.now _)
theorem cut_hit (s : ByteArray) (hs : s.size < 4611686018427387904) (c : UInt8) (i : Nat) (h : Lib.indexB s ⟨#[c]⟩ = i) (hi : i < s.size) : Ev (fun k => salvorref6_cutAt.f k s (c.toNat : Int)) (s.extract 0 i, s.extract (i + 1) s.size, true) := by
 have hl : s.data.toList.length = s.size := Array.length_toList
 have hix : Lib.index s.data.toList [c] = i := h
 have hno : Lib.NoOcc s.data.toList [c] i ∧ Lib.occAt s.data.toList [c] i = true := by
  rcases Lib.index_spec s.data.toList [c] with ⟨h3, _⟩ | ⟨j, h3, h4, h5, h6⟩
  ·omega
  ·obtain rfl : i = j := by omega
   exact ⟨h6, h5⟩
 obtain ⟨hno, hoc⟩ := hno
 rw [occ_bt s c i hi, decide_eq_true_iff] at hoc
 unfold salvorref6_cutAt.f
 refine scan s hs _ i (by omega) (fun j hj e => ?_) _ ?_ i 0 (by omega) (by omega)
 ·have := hno j hj
  rw [occ_bt s c j (by omega), decide_eq_false_iff_not] at this
  exact this e
 ·refine Ev.step (f := fun _ => some (s.extract 0 i, s.extract (i + 1) s.size, true)) (fun k => ?_) (Ev.now _)
  rw [salvorref6_cutAt.l0, if_pos (by omega), if_pos (by omega), if_pos hoc, if_pos (by omega), ws i (by omega), if_pos (by omega), if_pos (by omega)]
  rfl
theorem words_ref (c : UInt8) : ∀ (k : Nat) (s : ByteArray), s.size ≤ 1000 → Lib.countB s ⟨#[c]⟩ = k → ∀ acc : List ByteArray, acc.length + k ≤ 100000 → Ev (fun n => salvorref6_Words.l0 n s (c.toNat : Int) acc) (acc ++ Lib.splitB ⟨#[c]⟩ 0 k s)
 | k, s, hs, hk, acc, hacc => by
  rcases Lib.indexB_cases s ⟨#[c]⟩ with h | ⟨i, h, hi⟩
  ·rw [Lib.splitB_miss _ _ _ _ h]
   refine Ev.step (f := fun n => (salvorref6_cutAt.f n s (c.toNat : Int)).bind fun bt356 => (if acc.length < 8796093022208 then ((some (acc ++ [bt356.1] : List ByteArray)).bind fun y359 => (if bt356.2.2 = true then (salvorref6_Words.l0 n bt356.2.1 (c.toNat : Int) y359) else (some y359))) else (none))) (fun n => by rw [salvorref6_Words.l0]) ?_
   refine Ev.bind (cut_miss s (by omega) c h) ?_
   simp only [if_pos (show acc.length < 8796093022208 by omega)]
   exact Ev.now _
  ·have hsz : (⟨#[c]⟩ : ByteArray).size = 1 := rfl
   rw [hsz] at hi
   have hc := Lib.countB_hit s ⟨#[c]⟩ i (by rw [hsz]; omega) h
   rw [hsz] at hc
   cases k with
   | zero => omega
   | succ k =>
    rw [Lib.splitB_hit _ _ _ _ _ h, hsz, Nat.add_zero]
    have hes : (s.extract (i + 1) s.size).size ≤ 1000 := by
     have := congrArg List.length (Lib.extract_to_end s (i + 1))
     rw [Array.length_toList, List.length_drop, Array.length_toList] at this
     have h9 : (s.extract (i + 1) s.size).size = (s.extract (i + 1) s.size).data.size := rfl
     have h8 : s.size = s.data.size := rfl
     omega
    have ih := words_ref c k (s.extract (i + 1) s.size) hes (by omega) (acc ++ [s.extract 0 i]) (by simp; omega)
    refine Ev.step (f := fun n => (salvorref6_cutAt.f n s (c.toNat : Int)).bind fun bt356 => (if acc.length < 8796093022208 then ((some (acc ++ [bt356.1] : List ByteArray)).bind fun y359 => (if bt356.2.2 = true then (salvorref6_Words.l0 n bt356.2.1 (c.toNat : Int) y359) else (some y359))) else (none))) (fun n => by rw [salvorref6_Words.l0]) ?_
    refine Ev.bind (cut_hit s (by omega) c i h (by omega)) ?_
    simp only [if_pos (show acc.length < 8796093022208 by omega)]
    rw [List.append_assoc] at ih
    exact Ev.bind (Ev.now _) ih
theorem only_in (l : List S68) (keys : List ByteArray) (i : Nat) (hi : i < l.length) (hl : l.length < 10000) (hk : keys.length < 10000) (r : Bool) (hyes : inS keys (rd_T68 l i).f0 = true → Ev (fun k => salvorref6_Only.l0 k l keys ((i + 1 : Nat) : Int)) r) (hno : inS keys (rd_T68 l i).f0 = false → r = false) :
  ∀ d j : Nat, keys.length - j = d → j ≤ keys.length → ∀ b : Bool, b = (keys.take j).any (fun q => q.toList == (rd_T68 l i).f0.toList) → Ev (fun k => salvorref6_Only.l1 k l keys (i : Int) b (j : Int)) r := by
 intro d
 induction d with
 | zero =>
  intro j hd hj b hb
  have e : inS keys (rd_T68 l i).f0 = b := by rw [hb, List.take_of_length_le (by omega)]; rfl
  cases b with
  | true =>
   refine Ev.step (f := fun k => salvorref6_Only.l0 k l keys ((i + 1 : Nat) : Int)) (fun k => ?_) (hyes e)
   rw [salvorref6_Only.l1, if_neg (by omega), if_pos rfl, ws i (by omega)]
  | false =>
   rw [hno e]
   refine Ev.step (f := fun _ => some false) (fun k => ?_) (Ev.now _)
   rw [salvorref6_Only.l1, if_neg (by omega), if_neg (by simp)]
 | succ d ih =>
  intro j hd hj b hb
  have hlt : j < keys.length := by omega
  have ht : keys.take (j + 1) = keys.take j ++ [keys[j]] := by rw [List.take_add_one, List.getElem?_eq_getElem hlt]; rfl
  have hrd := rdOf_gt keys j hlt
  cases b with
  | true =>
   refine Ev.step (f := fun k => salvorref6_Only.l1 k l keys (i : Int) true ((j + 1 : Nat) : Int)) (fun k => ?_) (ih (j + 1) (by omega) (by omega) true (by rw [ht, List.any_append, ← hb]; rfl))
   rw [salvorref6_Only.l1, if_pos (by omega), if_pos rfl, ws j (by omega)]
  | false =>
   refine Ev.step (f := fun k => salvorref6_Only.l1 k l keys (i : Int) (keys[j].toList == (rd_T68 l i).f0.toList) ((j + 1 : Nat) : Int)) (fun k => ?_) (ih (j + 1) (by omega) (by omega) (keys[j].toList == (rd_T68 l i).f0.toList) (by rw [ht, List.any_append, ← hb]; simp))
   rw [salvorref6_Only.l1, if_pos (by omega), if_neg (by simp), if_pos (by omega), if_pos (by omega), if_pos (by omega), hrd, ws j (by omega)]
theorem only_at (l : List S68) (keys : List ByteArray) (hl : l.length < 10000) (hk : keys.length < 10000) : ∀ d i : Nat, l.length - i = d → i ≤ l.length → Ev (fun k => salvorref6_Only.l0 k l keys (i : Int)) (!outF keys (l.drop i)) := by
 intro d
 induction d with
 | zero =>
  intro i hd hi
  rw [List.drop_eq_nil_of_le (by omega)]
  exact Ev.step (f := fun _ => some true) (fun k => by rw [salvorref6_Only.l0, if_neg (by omega)]) (Ev.now _)
 | succ d ih =>
  intro i hd hi
  have hlt : i < l.length := by omega
  have hrd := rd68_get l i hlt
  have e : outF keys (l.drop i) = ((!inS keys (rd_T68 l i).f0) || outF keys (l.drop (i + 1))) := by
   rw [List.drop_eq_getElem_cons hlt, hrd]; rfl
  refine Ev.step (f := fun k => salvorref6_Only.l1 k l keys (i : Int) false ((0 : Nat) : Int)) (fun k => ?_) ?_
  ·rw [salvorref6_Only.l0, if_pos (by omega)]; rfl
  ·refine only_in l keys i hlt hl hk _ (fun h => ?_) (fun h => ?_) keys.length 0 (by omega) (by omega) false rfl
   ·rw [e, h]
    exact ih (i + 1) (by omega) (by omega)
   ·rw [e, h]; rfl
theorem only_ev (l : List S68) (keys : List ByteArray) (hl : l.length < 10000) (hk : keys.length < 10000) : Ev (fun k => salvorref6_Only.f k l keys) (!outF keys l) := only_at l keys hl hk l.length 0 (by omega) (by omega)
end Go.Proofs.YtbmhfnncagncmaaGreatDoor.Pure
end
section
namespace Go.Proofs.YtbmhfnncagncmaaGreatDoor.Num
open Go.Lib
set_option linter.unusedVariables false
set_option linter.unusedSimpArgs false
def MX : Nat := 4611686018427387904
def mulG (p : Nat) : List Nat → Option Nat
 | [] => some p
 | x :: r => if MX / p < x then none else mulG (p * x) r
def mulL (l : List Nat) : Option Nat := if 0 ∈ l then some 0 else mulG 1 l
def prod (l : List Nat) : Nat := l.foldr (· * ·) 1
theorem prod_pos : ∀ (l : List Nat), (∀ x ∈ l, 1 ≤ x) → 1 ≤ prod l
 | [], _ => Nat.le_refl _
 | x :: r, h => by
  have h1 := h x List.mem_cons_self
  have h2 := prod_pos r (fun y hy => h y (List.mem_cons_of_mem _ hy))
  show 1 ≤ x * prod r
  exact Nat.mul_pos h1 h2
theorem mulG_eq : ∀ (l : List Nat) (p : Nat), 1 ≤ p → p ≤ MX → (∀ x ∈ l, 1 ≤ x) → mulG p l = if p * prod l ≤ MX then some (p * prod l) else none
 | [], p, h1, h2, _ => by simp [mulG, prod, h2]
 | x :: r, p, h1, h2, h => by
  have hx := h x List.mem_cons_self
  have hr := prod_pos r (fun y hy => h y (List.mem_cons_of_mem _ hy))
  have e : p * prod (x :: r) = p * x * prod r := by show p * (x * prod r) = _; rw [Nat.mul_assoc]
  rw [mulG, e]
  by_cases c : MX / p < x
  ·have c2 : MX < p * x := by
    rw [Nat.div_lt_iff_lt_mul h1] at c; rw [Nat.mul_comm]; exact c
   have c3 : p * x * 1 ≤ p * x * prod r := Nat.mul_le_mul_left _ hr
   rw [if_pos c, if_neg (by omega)]
  ·have c2 : p * x ≤ MX := by
    have := (Nat.le_div_iff_mul_le h1).1 (Nat.le_of_not_lt c); rw [Nat.mul_comm]; exact this
   rw [if_neg c]
   exact mulG_eq r (p * x) (Nat.mul_pos h1 hx) c2 (fun y hy => h y (List.mem_cons_of_mem _ hy))
theorem mulL_eq (l : List Nat) (h : ¬ 0 ∈ l) : mulL l = if prod l ≤ MX then some (prod l) else none := by
 unfold mulL
 rw [if_neg h, mulG_eq l 1 (Nat.le_refl _) (by decide) (fun x hx => Nat.pos_of_ne_zero (fun e => h (e ▸ hx))), Nat.one_mul]
theorem mulL_le {l : List Nat} {u : Nat} (h : mulL l = some u) : u ≤ MX := by
 by_cases c : 0 ∈ l
 ·unfold mulL at h; rw [if_pos c] at h; cases h; exact Nat.zero_le _
 ·rw [mulL_eq l c] at h
  split at h
  ·cases h; assumption
  ·cases h
def dgN (B most : Nat) (l : List UInt8) : Option Nat := if most < l.length then none else dg B l
theorem dg_le {B : Nat} {l : List UInt8} {u : Nat} (h : dg B l = some u) : u ≤ MX := by
 unfold dg at h
 split at h
 ·cases h
 ·split at h
  ·split at h
   ·cases h; assumption
   ·cases h
  ·cases h
theorem dgN_le {B m : Nat} {l : List UInt8} {u : Nat} (h : dgN B m l = some u) : u ≤ MX := by
 unfold dgN at h
 split at h
 ·cases h
 ·exact dg_le h
theorem tm_le {l : List UInt8} {b : Nat} (h : tm l = some b) : 1 ≤ b ∧ b ≤ 1073741824 := by
 unfold tm at h
 by_cases c : l = []
 ·rw [if_pos c] at h; cases h; decide
 rw [if_neg c] at h; clear c
 by_cases c : l = [99]
 ·rw [if_pos c] at h; cases h; decide
 rw [if_neg c] at h; clear c
 by_cases c : l = [119]
 ·rw [if_pos c] at h; cases h; decide
 rw [if_neg c] at h; clear c
 by_cases c : l = [98]
 ·rw [if_pos c] at h; cases h; decide
 rw [if_neg c] at h; clear c
 by_cases c : l = [107, 66]
 ·rw [if_pos c] at h; cases h; decide
 rw [if_neg c] at h; clear c
 by_cases c : l = [107]
 ·rw [if_pos c] at h; cases h; decide
 rw [if_neg c] at h; clear c
 by_cases c : l = [75]
 ·rw [if_pos c] at h; cases h; decide
 rw [if_neg c] at h; clear c
 by_cases c : l = [77, 66]
 ·rw [if_pos c] at h; cases h; decide
 rw [if_neg c] at h; clear c
 by_cases c : l = [77]
 ·rw [if_pos c] at h; cases h; decide
 rw [if_neg c] at h; clear c
 by_cases c : l = [71, 66]
 ·rw [if_pos c] at h; cases h; decide
 rw [if_neg c] at h; clear c
 by_cases c : l = [71]
 ·rw [if_pos c] at h; cases h; decide
 rw [if_neg c] at h; clear c
 cases h
def isD (c : UInt8) : Bool := decide (48 ≤ c.toNat) && decide (c.toNat ≤ 57)
def partL (l : List UInt8) : Option Nat := match dgN 10 19 (l.takeWhile isD), tm (l.dropWhile isD) with
 | some n, some m => mulL [n, m]
 | _, _ => none
def pieces (c : UInt8) : List UInt8 → List (List UInt8)
 | [] => [[]]
 | x :: r => if x = c then [] :: pieces c r else match pieces c r with
  | p :: ps => (x :: p) :: ps
  | [] => [[x]]
def partsL : List (List UInt8) → Option (List Nat)
 | [] => some []
 | p :: ps => match partL p with
  | some n => (partsL ps).map (n :: ·)
  | none => none
def getL (l : List UInt8) : Option Nat := match partsL (pieces 120 l) with
 | some ns => mulL ns
 | none => none
theorem partL_le {l : List UInt8} {u : Nat} (h : partL l = some u) : u ≤ MX := by
 unfold partL at h
 split at h
 ·exact mulL_le h
 ·cases h
theorem pieces_cons (c : UInt8) (l : List UInt8) : pieces c l = l.takeWhile (· ≠ c) :: (match l.dropWhile (· ≠ c) with
  | [] => []
  | _ :: r => pieces c r) := by
 induction l with
 | nil => rfl
 | cons x r ih =>
  rw [pieces]
  by_cases h : x = c
  ·subst h
   rw [if_pos rfl]
   simp [List.takeWhile_cons, List.dropWhile_cons]
  ·rw [if_neg h, ih]
   simp [List.takeWhile_cons, List.dropWhile_cons, h]
def jn (c : UInt8) : List (List UInt8) → List UInt8
 | [] => []
 | [x] => x
 | x :: y :: r => x ++ c :: jn c (y :: r)
theorem pieces_app (c : UInt8) : ∀ (x : List UInt8) (r : List UInt8), (∀ b ∈ x, b ≠ c) → pieces c (x ++ c :: r) = x :: pieces c r
 | [], r, _ => by rw [List.nil_append, pieces, if_pos rfl]
 | b :: x, r, h => by
  have h1 : ¬ b = c := h b List.mem_cons_self
  rw [List.cons_append, pieces, if_neg h1, pieces_app c x r (fun y hy => h y (List.mem_cons_of_mem _ hy))]
theorem pieces_none (c : UInt8) : ∀ (x : List UInt8), (∀ b ∈ x, b ≠ c) → pieces c x = [x]
 | [], _ => rfl
 | b :: x, h => by
  have h1 : ¬ b = c := h b List.mem_cons_self
  rw [pieces, if_neg h1, pieces_none c x (fun y hy => h y (List.mem_cons_of_mem _ hy))]
theorem pieces_jn (c : UInt8) : ∀ (ps : List (List UInt8)), ps ≠ [] → (∀ p ∈ ps, ∀ b ∈ p, b ≠ c) → pieces c (jn c ps) = ps
 | [], h, _ => absurd rfl h
 | [x], _, h => pieces_none c x (h x List.mem_cons_self)
 | x :: y :: r, _, h => by
  rw [jn, pieces_app c x _ (h x List.mem_cons_self), pieces_jn c (y :: r) (by simp) (fun p hp => h p (List.mem_cons_of_mem _ hp))]
def hu (d : Nat) : UInt8 := upperB (hl d)
end Go.Proofs.YtbmhfnncagncmaaGreatDoor.Num
end
section
namespace Go.Proofs.YtbmhfnncagncmaaGreatDoor.PureN
open Go.RowKit Go.Proofs.YtbmhfnncagncmaaGreatDoorW.PrintWords Go.Proofs.YtbmhfnncagncmaaGreatDoorW.PrintLast Go.Proofs.YtbmhfnncagncmaaGreatDoor.P Go.Proofs.YtbmhfnncagncmaaGreatDoor.Num
set_option linter.unusedVariables false
set_option linter.unusedSimpArgs false
def cast (l : List Nat) : List Int := l.map (fun (n : Nat) => ((n : Nat) : Int))
theorem cast_len (l : List Nat) : (cast l).length = l.length := List.length_map ..
theorem rd_cast (l : List Nat) (i : Nat) (h : i < l.length) : rd (cast l) (i : Int) = (l[i] : Int) := by
 unfold rd cast
 simp [h]
theorem wrap_nat (n : Nat) (h : n ≤ 4611686018427387904) : wrap64 (n : Int) = (n : Int) := by unfold wrap64; omega
theorem wrap_succ (n : Nat) (h : n < 4611686018427387904) : wrap64 ((n : Int) + 1) = ((n + 1 : Nat) : Int) := by unfold wrap64; omega
theorem may_ok (n : Nat) (h : n ≤ MX) : off_May.f (n : Int) = some true := by
 unfold off_May.f
 rw [if_pos (by omega)]
 exact congrArg some (decide_eq_true (by unfold MX at h; omega))
theorem all_ev (l : List Nat) (hm : ∀ x ∈ l, x ≤ MX) (hl : l.length < 4611686018427387904) : ∀ d i : Nat, l.length - i = d → i ≤ l.length → Ev (fun k => off_all.l0 k (cast l) (l.length : Int) (i : Int)) true := by
 intro d
 induction d with
 | zero =>
  intro i hd hi
  exact Ev.step (f := fun _ => some true) (fun k => by rw [off_all.l0, if_neg (by omega)]) (Ev.now _)
 | succ d ih =>
  intro i hd hi
  have hlt : i < l.length := by omega
  have := ih (i + 1) (by omega) (by omega)
  refine Ev.step (f := fun k => off_all.l0 k (cast l) (l.length : Int) ((i + 1 : Nat) : Int)) (fun k => ?_) this
  rw [off_all.l0, if_pos (by omega), if_pos (by omega), if_pos (by rw [cast_len]; omega), rd_cast l i hlt, may_ok _ (hm _ (List.getElem_mem hlt)), Option.bind_some, if_pos rfl, wrap_succ i (by omega)]
theorem mul1_ev (l : List Nat) (hm : ∀ x ∈ l, x ≤ MX) (hp : ∀ x ∈ l, 1 ≤ x) (hl : l.length < 4611686018427387904) : ∀ d i p : Nat, l.length - i = d → i ≤ l.length → 1 ≤ p → p ≤ MX →
  Ev (fun k => off_Mul.l1 k (p : Int) (cast l) (l.length : Int) (i : Int)) (val (mulG p (l.drop i))) := by
 intro d
 induction d with
 | zero =>
  intro i p hd hi h1 h2
  rw [List.drop_eq_nil_of_le (by omega)]
  exact Ev.step (f := fun _ => some ((p : Int), true)) (fun k => by rw [off_Mul.l1, if_neg (by omega)]) (Ev.now _)
 | succ d ih =>
  intro i p hd hi h1 h2
  have hlt : i < l.length := by omega
  have hx := hm _ (List.getElem_mem hlt)
  have hx1 := hp _ (List.getElem_mem hlt)
  have hq : wrap64 ((4611686018427387904 : Int) / (p : Int)) = ((MX / p : Nat) : Int) := by
   have : ((4611686018427387904 : Int) / (p : Int)) = ((MX / p : Nat) : Int) := rfl
   rw [this]
   exact wrap_nat _ (by have := Nat.div_le_self MX p; unfold MX at *; omega)
  rw [List.drop_eq_getElem_cons hlt, mulG]
  by_cases c : MX / p < l[i]
  ·rw [if_pos c]
   refine Ev.step (f := fun _ => some (0, false)) (fun k => ?_) (Ev.now _)
   rw [off_Mul.l1, if_pos (by omega), if_pos (by omega), if_pos (by rw [cast_len]; omega), if_neg (by omega), rd_cast l i hlt, hq, if_pos (by omega)]
  ·rw [if_neg c]
   have c2 : p * l[i] ≤ MX := by
    have := (Nat.le_div_iff_mul_le h1).1 (Nat.le_of_not_lt c); rw [Nat.mul_comm]; exact this
   have := ih (i + 1) (p * l[i]) (by omega) (by omega) (Nat.mul_pos h1 hx1) c2
   refine Ev.step (f := fun k => off_Mul.l1 k ((p * l[i] : Nat) : Int) (cast l) (l.length : Int) ((i + 1 : Nat) : Int)) (fun k => ?_) this
   have hw : wrap64 ((p : Int) * (l[i] : Int)) = ((p * l[i] : Nat) : Int) := by
    rw [← Int.natCast_mul]; exact wrap_nat _ c2
   rw [off_Mul.l1, if_pos (by omega), if_pos (by omega), if_pos (by rw [cast_len]; omega), if_neg (by omega), rd_cast l i hlt, hq, if_neg (by omega), hw, wrap_succ i (by omega)]
theorem mul0_ev (l : List Nat) (hm : ∀ x ∈ l, x ≤ MX) (hl : l.length < 4611686018427387904) : ∀ d i : Nat, l.length - i = d → i ≤ l.length → (∀ j, (h : j < l.length) → j < i → l[j] ≠ 0) →
  Ev (fun k => off_Mul.l0 k (cast l) (cast l) (l.length : Int) (i : Int)) (val (mulL l)) := by
 intro d
 induction d with
 | zero =>
  intro i hd hi h0
  have hnz : ¬ 0 ∈ l := by
   intro h
   obtain ⟨j, hj, e⟩ := List.getElem_of_mem h
   exact h0 j hj (by omega) e
  have := mul1_ev l hm (fun x hx => Nat.pos_of_ne_zero (fun e => hnz (e ▸ hx))) hl l.length 0 1 (by omega) (by omega) (Nat.le_refl _) (by decide)
  have e : mulL l = mulG 1 (l.drop 0) := by unfold mulL; rw [if_neg hnz]; rfl
  rw [e]
  refine Ev.step (f := fun k => off_Mul.l1 k ((1 : Nat) : Int) (cast l) (l.length : Int) ((0 : Nat) : Int)) (fun k => ?_) this
  rw [off_Mul.l0, if_neg (by omega), cast_len]; rfl
 | succ d ih =>
  intro i hd hi h0
  have hlt : i < l.length := by omega
  by_cases c : l[i] = 0
  ·have e : mulL l = some 0 := by unfold mulL; rw [if_pos (by rw [← c]; exact List.getElem_mem hlt)]
   rw [e]
   refine Ev.step (f := fun _ => some (0, true)) (fun k => ?_) (Ev.now _)
   rw [off_Mul.l0, if_pos (by omega), if_pos (by omega), if_pos (by rw [cast_len]; omega), rd_cast l i hlt, if_pos (by omega)]
  ·have := ih (i + 1) (by omega) (by omega) (fun j hj hji => by
    by_cases e : j = i
    ·subst e; exact c
    ·exact h0 j hj (by omega))
   refine Ev.step (f := fun k => off_Mul.l0 k (cast l) (cast l) (l.length : Int) ((i + 1 : Nat) : Int)) (fun k => ?_) this
   rw [off_Mul.l0, if_pos (by omega), if_pos (by omega), if_pos (by rw [cast_len]; omega), rd_cast l i hlt, if_neg (by omega), wrap_succ i (by omega)]
theorem mul_ev (l : List Nat) (hm : ∀ x ∈ l, x ≤ MX) (hl : l.length < 4611686018427387904) : Ev (fun k => off_Mul.f k (cast l)) (val (mulL l)) := by
 unfold off_Mul.f
 have ha := all_ev l hm hl l.length 0 (by omega) (by omega)
 have h0 := mul0_ev l hm hl l.length 0 (by omega) (by omega) (fun j hj h => absurd h (Nat.not_lt_zero _))
 refine Ev.bind (a := true) ?_ ?_
 ·unfold off_all.f; rw [cast_len]; exact ha
 ·simp only [if_true, cast_len]; exact h0
theorem data_len (s : ByteArray) : s.data.toList.length = s.size := Array.length_toList
theorem bt_data (s : ByteArray) (j : Nat) (hj : j < s.size) : bt s j = ((s.data.toList[j]'(by rw [Array.length_toList]; exact hj)).toNat : Int) := by
 have := bt_at s (j : Int) (by simpa using hj)
 rw [← this]
 simp
 rfl
theorem ext_take (s : ByteArray) (n : Nat) : (s.extract 0 n).data.toList = s.data.toList.take n := by
 rw [Lib.extract_data]; simp
theorem ext_drop (s : ByteArray) (n : Nat) : (s.extract n s.size).data.toList = s.data.toList.drop n := Lib.extract_to_end s n
theorem digits_f (s : ByteArray) (B most : Nat) (hB : B = 10 ∨ B = 16) (hs : s.size ≤ 100000) : num_digits.f s (B : Int) (most : Int) = some (val (dgN B most s.data.toList)) := by
 unfold num_digits.f dgN
 rw [data_len]
 by_cases h : most < s.size
 ·rw [if_pos (by omega), if_pos h]; rfl
 ·rw [if_neg (by omega), if_neg h, if_pos ⟨by omega, hs⟩]
  rfl
theorem tv_val (x : Option Nat) : tv x = val x := by cases x <;> rfl
theorem part_end (s : ByteArray) (hs : s.size ≤ 100000) (n : Nat) (hn : n ≤ s.size) (h1 : s.data.toList.take n = s.data.toList.takeWhile isD) (h2 : s.data.toList.drop n = s.data.toList.dropWhile isD) :
  Ev (fun k => num_part.j1 k s (n : Int)) (val (partL s.data.toList)) := by
 have hd : num_digits.f (s.extract 0 ((n : Nat) : Int).toNat) 10 19 = some (val (dgN 10 19 (s.data.toList.takeWhile isD))) := by
  have := digits_f (s.extract 0 n) 10 19 (.inl rfl) (by
   rw [← data_len, ext_take, List.length_take]; rw [data_len]; omega)
  rw [ext_take, h1] at this
  exact this
 have ht : num_times.f (s.extract ((n : Nat) : Int).toNat s.size) = some (val (tm (s.data.toList.dropWhile isD))) := by
  unfold num_times.f
  rw [Int.toNat_natCast, ext_drop, h2, tv_val]
 have hstep : ∀ k, num_part.j1 (k + 1) s (n : Int) = (some (val (dgN 10 19 (s.data.toList.takeWhile isD)))).bind fun bt106 => ((some (val (tm (s.data.toList.dropWhile isD)))).bind fun bt108 => (if bt106.2 = true then (if bt108.2 = true then ((off_Mul.f k (([bt106.1, bt108.1] : List Int))).bind fun bt113 => (some (bt113.1, bt113.2))) else (some (0, false))) else (some (0, false)))) := by
  intro k
  rw [num_part.j1, if_pos (by omega), if_pos (by omega), hd, ht]
 unfold partL
 cases ha : dgN 10 19 (s.data.toList.takeWhile isD) with
 | none =>
  refine Ev.step (f := fun _ => some (0, false)) (fun k => ?_) (Ev.now _)
  rw [hstep, ha]; rfl
 | some a =>
  cases hb : tm (s.data.toList.dropWhile isD) with
  | none =>
   refine Ev.step (f := fun _ => some (0, false)) (fun k => ?_) (Ev.now _)
   rw [hstep, ha, hb]; rfl
  | some b =>
   have hbm : b ≤ MX := Nat.le_trans (tm_le hb).2 (by decide)
   have hm := mul_ev [a, b] (by intro x hx; simp at hx; rcases hx with rfl | rfl; exact dgN_le ha; exact hbm) (by simp)
   refine Ev.step (f := fun k => (off_Mul.f k (cast [a, b])).bind fun bt113 => some (bt113.1, bt113.2)) (fun k => ?_) (Ev.bind hm (Ev.now _))
   rw [hstep, ha, hb]; rfl
theorem part_loop (s : ByteArray) (hs : s.size ≤ 100000) : ∀ d i : Nat, s.size - i = d → i ≤ s.size → (∀ j, (h : j < s.data.toList.length) → j < i → isD s.data.toList[j] = true) → Ev (fun k => num_part.l0 k s (i : Int)) (val (partL s.data.toList)) := by
 have hlen := data_len s
 have key : ∀ i : Nat, i ≤ s.size → (∀ j, (h : j < s.data.toList.length) → j < i → isD s.data.toList[j] = true) → (∀ h : i < s.data.toList.length, isD s.data.toList[i] = false) → s.data.toList.take i = s.data.toList.takeWhile isD ∧ s.data.toList.drop i = s.data.toList.dropWhile isD := by
  intro i hi h1 h2
  have e := List.take_append_drop i s.data.toList
  have ht : ∀ x ∈ s.data.toList.take i, isD x = true := by
   intro x hx
   obtain ⟨j, hj, rfl⟩ := List.getElem_of_mem hx
   rw [List.length_take] at hj
   rw [List.getElem_take]
   exact h1 j (by omega) (by omega)
  have hd : s.data.toList.drop i = (s.data.toList.drop i).dropWhile isD ∧ (s.data.toList.drop i).takeWhile isD = [] := by
   by_cases c : i < s.data.toList.length
   ·rw [List.drop_eq_getElem_cons c, List.dropWhile_cons, List.takeWhile_cons, h2 c]
    exact ⟨rfl, rfl⟩
   ·rw [List.drop_eq_nil_of_le (by omega)]; exact ⟨rfl, rfl⟩
  constructor
  ·conv => rhs; rw [← e, List.takeWhile_append_of_pos ht, hd.2, List.append_nil]
  ·conv => rhs; rw [← e, List.dropWhile_append_of_pos ht, ← hd.1]
 intro d
 induction d with
 | zero =>
  intro i hd hi h1
  obtain ⟨k1, k2⟩ := key i hi h1 (fun h => by omega)
  refine Ev.step (f := fun k => num_part.j1 k s (i : Int)) (fun k => ?_) (part_end s hs i hi k1 k2)
  rw [num_part.l0, if_neg (by omega)]
 | succ d ih =>
  intro i hd hi h1
  have hlt : i < s.size := by omega
  have hb := bt_data s i hlt
  by_cases c : isD (s.data.toList[i]'(by rw [hlen]; exact hlt)) = true
  ·have c2 := c
   unfold isD at c2
   rw [Bool.and_eq_true, decide_eq_true_iff, decide_eq_true_iff] at c2
   have := ih (i + 1) (by omega) (by omega) (fun j hj hji => by
    by_cases e : j = i
    ·subst e; exact c
    ·exact h1 j hj (by omega))
   refine Ev.step (f := fun k => num_part.l0 k s ((i + 1 : Nat) : Int)) (fun k => ?_) this
   rw [num_part.l0, if_pos (by omega), if_pos (by omega), hb, if_pos (by omega), if_pos (by omega), wrap_succ i (by omega)]
  ·have c1 : isD (s.data.toList[i]'(by rw [hlen]; exact hlt)) = false := by simpa using c
   obtain ⟨k1, k2⟩ := key i hi h1 (fun h => c1)
   refine Ev.step (f := fun k => num_part.j1 k s (i : Int)) (fun k => ?_) (part_end s hs i hi k1 k2)
   unfold isD at c1
   rw [Bool.and_eq_false_iff, decide_eq_false_iff_not, decide_eq_false_iff_not] at c1
   rw [num_part.l0, if_pos (by omega), if_pos (by omega), hb]
   by_cases c3 : ((s.data.toList[i]'(by rw [hlen]; exact hlt)).toNat : Int) ≥ 48
   ·rw [if_pos c3, if_neg (by omega)]
   ·rw [if_neg c3]
theorem part_ev (s : ByteArray) (hs : s.size ≤ 100000) : Ev (fun k => num_part.f k s) (val (partL s.data.toList)) := part_loop s hs s.size 0 (by omega) (by omega) (fun j h hj => absurd hj (Nat.not_lt_zero _))
theorem get_loop (ps : List ByteArray) (hs : ∀ p ∈ ps, p.size ≤ 100000) (hl : ps.length < 10000000) : ∀ d i : Nat, ps.length - i = d → i ≤ ps.length → ∀ ns : List Nat, (∀ x ∈ ns, x ≤ MX) → ns.length = i →
  Ev (fun k => num_Get.l0 k (cast ns) ps (ps.length : Int) (i : Int)) (val (match partsL ((ps.drop i).map (·.data.toList)) with
   | some ms => mulL (ns ++ ms)
   | none => none)) := by
 intro d
 induction d with
 | zero =>
  intro i hd hi ns hn hni
  rw [List.drop_eq_nil_of_le (by omega)]
  have hm := mul_ev ns hn (by omega)
  refine Ev.step (f := fun k => (off_Mul.f k (cast ns)).bind fun bt124 => some (bt124.1, bt124.2)) (fun k => ?_) ?_
  ·rw [num_Get.l0, if_neg (by omega)]
  ·simp only [List.map_nil, partsL, List.append_nil]
   exact Ev.bind hm (Ev.now _)
 | succ d ih =>
  intro i hd hi ns hn hni
  have hlt : i < ps.length := by omega
  have hrd : rdOf ByteArray.empty ps (i : Int) = ps[i] := by unfold rdOf; simp [hlt]
  have hp := part_ev ps[i] (hs _ (List.getElem_mem hlt))
  rw [List.drop_eq_getElem_cons hlt, List.map_cons, partsL]
  refine Ev.step (f := fun k => (num_part.f k ps[i]).bind fun bt119 => (if bt119.2 = true then (if (cast ns).length < 17592186044416 then (num_Get.l0 k (cast ns ++ [bt119.1]) ps (ps.length : Int) ((i + 1 : Nat) : Int)) else (none)) else (some (0, false)))) (fun k => ?_) ?_
  ·rw [num_Get.l0, if_pos (by omega), if_pos (by omega), if_pos (by omega), hrd, wrap_succ i (by omega)]
  refine Ev.bind hp ?_
  cases hq : partL (ps[i].data.toList) with
  | none => exact Ev.now _
  | some n =>
   have hc : (cast ns).length < 17592186044416 := by rw [cast_len]; omega
   have hcast : cast ns ++ [(val (some n)).1] = cast (ns ++ [n]) := by unfold cast; rw [List.map_append]; rfl
   simp only [show (val (some n)).2 = true from rfl, if_true, if_pos hc, hcast]
   have := ih (i + 1) (by omega) (by omega) (ns ++ [n]) (by
    intro x hx
    rcases List.mem_append.1 hx with hx | hx
    ·exact hn x hx
    ·obtain rfl := List.mem_singleton.1 hx; exact partL_le hq) (by simp; omega)
   cases hr : partsL ((ps.drop (i + 1)).map (·.data.toList)) with
   | none => rw [hr] at this; exact this
   | some ms =>
    rw [hr] at this
    simp only [List.append_assoc, List.singleton_append] at this
    exact this
theorem occ_bt (s : ByteArray) (c : UInt8) (j : Nat) (hj : j < s.size) : Lib.occAt s.data.toList [c] j = decide (bt s j = (c.toNat : Int)) := by
 have hl : s.data.toList.length = s.size := Array.length_toList
 unfold Lib.occAt
 rw [List.drop_eq_getElem_cons (by rw [hl]; exact hj)]
 have e : bt s j = ((s.data.toList[j]'(by rw [hl]; exact hj)).toNat : Int) := by
  have := bt_at s (j : Int) (by simpa using hj)
  rw [← this]
  simp
  rfl
 rw [e]
 generalize s.data.toList[j] = a
 simp only [List.isPrefixOf, Bool.and_true]
 by_cases h : c = a
 ·subst h; simp
 ·have h2 : ¬ (a.toNat : Int) = (c.toNat : Int) := fun e => h (UInt8.toNat_inj.1 (by omega)).symm
  simp [h, h2]
theorem words_ok (c : UInt8) : ∀ (k : Nat) (s : ByteArray), Lib.countB s ⟨#[c]⟩ = k → jn c ((Lib.splitB ⟨#[c]⟩ 0 k s).map (·.data.toList)) = s.data.toList ∧ ∀ p ∈ Lib.splitB ⟨#[c]⟩ 0 k s, ∀ j : Nat, j < p.size → bt p j ≠ (c.toNat : Int)
 | k, s, hk => by
  have hl : s.data.toList.length = s.size := Array.length_toList
  rcases Lib.indexB_cases s ⟨#[c]⟩ with h | ⟨i, h, hi⟩
  ·rw [Lib.splitB_miss _ _ _ _ h]
   refine ⟨rfl, fun p hp j hj e => ?_⟩
   obtain rfl := List.mem_singleton.1 hp
   rcases Lib.index_spec p.data.toList [c] with ⟨_, h2⟩ | ⟨i, h1, h2, h3, _⟩
   ·have := h2 j (by rw [hl]; omega)
    rw [occ_bt p c j hj, decide_eq_false_iff_not] at this
    exact this e
   ·have h' : Lib.index p.data.toList [c] = -1 := h
    omega
  ·have hsz : (⟨#[c]⟩ : ByteArray).size = 1 := rfl
   rw [hsz] at hi
   have hc := Lib.countB_hit s ⟨#[c]⟩ i (by rw [hsz]; omega) h
   rw [hsz] at hc
   cases k with
   | zero => omega
   | succ k =>
    rw [Lib.splitB_hit _ _ _ _ _ h, hsz, Nat.add_zero]
    obtain ⟨h1, h2⟩ := words_ok c k (s.extract (i + 1) s.size) (by omega)
    have hix : Lib.index s.data.toList [c] = i := h
    have hno : Lib.NoOcc s.data.toList [c] i ∧ Lib.occAt s.data.toList [c] i = true := by
     rcases Lib.index_spec s.data.toList [c] with ⟨h3, _⟩ | ⟨j, h3, h4, h5, h6⟩
     ·omega
     ·obtain rfl : i = j := by omega
      exact ⟨h6, h5⟩
    obtain ⟨hno, hoc⟩ := hno
    rw [occ_bt s c i (by omega), decide_eq_true_iff] at hoc
    refine ⟨?_, fun p hp j hj => ?_⟩
    ·have hne : Lib.splitB ⟨#[c]⟩ 0 k (s.extract (i + 1) s.size) ≠ [] := by
      intro e
      have := Lib.splitB_all ⟨#[c]⟩ (by rw [hsz]; omega) 0 k (s.extract (i + 1) s.size) (by omega)
      rw [e] at this; simp at this
     obtain ⟨y, r, hyr⟩ := List.exists_cons_of_ne_nil hne
     rw [hyr] at h1 ⊢
     simp only [List.map_cons] at h1 ⊢
     rw [jn, h1, Lib.extract_from_zero, Lib.extract_to_end]
     have hci : s.data.toList[i]'(by rw [hl]; omega) = c := by
      rw [bt_data s i (by omega)] at hoc
      exact UInt8.toNat_inj.1 (Int.ofNat_inj.1 hoc)
     conv => rhs; rw [← List.take_append_drop i s.data.toList]
     rw [List.drop_eq_getElem_cons (i := i) (l := s.data.toList) (by rw [hl]; omega), hci]
    ·rcases List.mem_cons.1 hp with rfl | hp
     ·have hps : (s.extract 0 i).size = i := by
       have := congrArg List.length (Lib.extract_from_zero s i)
       rw [Array.length_toList, List.length_take, hl] at this
       have h9 : (s.extract 0 i).size = (s.extract 0 i).data.size := rfl
       omega
      rw [hps] at hj
      have e1 : bt (s.extract 0 i) j = bt s j := by
       rw [bt_data _ j (by omega), bt_data s j (by omega)]
       simp only [Lib.extract_from_zero]
       rw [List.getElem_take]
      rw [e1]
      have := hno j hj
      rw [occ_bt s c j (by omega), decide_eq_false_iff_not] at this
      exact this
     ·exact h2 p hp j hj
theorem split_pieces (c : UInt8) (s : ByteArray) : (Lib.splitB ⟨#[c]⟩ 0 (Lib.countB s ⟨#[c]⟩) s).map (·.data.toList) = pieces c s.data.toList := by
 obtain ⟨h1, h2⟩ := words_ok c _ s rfl
 have hne : Lib.splitB ⟨#[c]⟩ 0 (Lib.countB s ⟨#[c]⟩) s ≠ [] := by
  intro e
  have := Lib.splitB_all ⟨#[c]⟩ (by show 1 ≤ 1; omega) 0 (Lib.countB s ⟨#[c]⟩) s rfl
  rw [e] at this; simp at this
 rw [← h1, pieces_jn c _ (by simpa using hne)]
 intro p hp b hb
 obtain ⟨q, hq, rfl⟩ := List.mem_map.1 hp
 obtain ⟨j, hj, rfl⟩ := List.getElem_of_mem hb
 have hj2 : j < q.size := by rw [← data_len]; exact hj
 have := h2 q hq j hj2
 rw [bt_data q j hj2] at this
 intro e
 rw [e] at this
 exact this rfl
theorem pieces_size (c : UInt8) (l : List UInt8) : (∀ p ∈ pieces c l, p.length ≤ l.length) ∧ (pieces c l).length ≤ l.length + 1 := by
 induction l with
 | nil => simp [pieces]
 | cons x r ih =>
  obtain ⟨h1, h2⟩ := ih
  rw [pieces]
  split
  ·refine ⟨fun p hp => ?_, by simp; omega⟩
   rcases List.mem_cons.1 hp with rfl | hp
   ·simp
   ·have := h1 p hp; simp; omega
  ·split
   ·next p ps e =>
    rw [e] at h1 h2
    refine ⟨fun q hq => ?_, by simp at h2 ⊢; omega⟩
    rcases List.mem_cons.1 hq with rfl | hq
    ·have := h1 p List.mem_cons_self; simp; omega
    ·have := h1 q (List.mem_cons_of_mem _ hq); simp; omega
   ·refine ⟨fun q hq => ?_, by simp⟩
    obtain rfl := List.mem_singleton.1 hq
    simp
theorem get_ev (s : ByteArray) (hs : s.size ≤ 100000) : Ev (fun k => num_Get.f k s) (val (getL s.data.toList)) := by
 have hsp : strings_Split.f s (⟨#[120]⟩ : ByteArray) = some (Lib.splitB ⟨#[120]⟩ 0 (Lib.countB s ⟨#[120]⟩) s) := by
  unfold strings_Split.f
  rw [if_pos ⟨by omega, by show 1 ≤ 1; omega⟩]
 obtain ⟨h1, h2⟩ := pieces_size 120 s.data.toList
 have hps := split_pieces 120 s
 generalize hP : Lib.splitB ⟨#[120]⟩ 0 (Lib.countB s ⟨#[120]⟩) s = ps at hsp hps
 have hpl : ps.length ≤ s.size + 1 := by
  have := congrArg List.length hps
  rw [List.length_map] at this
  rw [this, ← data_len]; exact h2
 have hpp : ∀ p ∈ ps, p.size ≤ 100000 := by
  intro p hp
  have : p.data.toList ∈ pieces 120 s.data.toList := by rw [← hps]; exact List.mem_map.2 ⟨p, hp, rfl⟩
  have := h1 _ this
  rw [data_len, data_len] at this
  omega
 have := get_loop ps hpp (by omega) ps.length 0 (by omega) (by omega) [] (by simp) rfl
 unfold num_Get.f getL
 rw [hsp]
 rw [List.drop_zero, hps] at this
 simp only [List.nil_append] at this
 exact this
end Go.Proofs.YtbmhfnncagncmaaGreatDoor.PureN
end
section
namespace Go.Proofs.YtbmhfnncagncmaaGreatDoor.PureN
open Go.RowKit Go.Proofs.YtbmhfnncagncmaaGreatDoorW.PrintWords Go.Proofs.YtbmhfnncagncmaaGreatDoorW.PrintLast Go.Proofs.YtbmhfnncagncmaaGreatDoor.P Go.Proofs.YtbmhfnncagncmaaGreatDoor.Num
set_option linter.unusedVariables false
set_option linter.unusedSimpArgs false
def dr (c : Nat) : Nat := if 48 ≤ c ∧ c ≤ 57 then c - 48 else if 97 ≤ c ∧ c ≤ 102 then c - 97 + 10 else if 65 ≤ c ∧ c ≤ 70 then c - 65 + 10 else 99
theorem dr_dv (c : UInt8) : (dr c.toNat < 16 ↔ dv c.toNat < 16) ∧ (dv c.toNat < 16 → dr c.toNat = dv c.toNat) := by
 have h : ∀ c : Fin 256, (dr c < 16 ↔ dv c < 16) ∧ (dv c < 16 → dr c = dv c) := by decide +kernel
 exact h ⟨c.toNat, c.toNat_lt⟩
theorem num_step (s : ByteArray) (B u i : Nat) (r : Int × Bool) (hB : B ≤ 16) (hi : i < s.size) (hs : s.size ≤ 100000) (c : Nat) (hc : bt s i = (c : Int)) (hc2 : c < 256) (hu : u * B + B ≤ 18446744073709551616)
  (h1 : dr c < B → Ev (fun k => salvorref1_number.l0 k s B ((u * B + dr c : Nat) : Int) ((i + 1 : Nat) : Int)) r) (h2 : ¬ dr c < B → r = (0, false)) :
  Ev (fun k => salvorref1_number.l0 k s B (u : Int) (i : Int)) r := by
 have hw : ∀ d : Nat, d < B → IntKind.u64.wrap (IntKind.u64.wrap ((u : Int) * (B : Int)) + (d : Int)) = ((u * B + d : Nat) : Int) := by
  intro d hd
  have e : (u : Int) * (B : Int) = ((u * B : Nat) : Int) := by rw [Int.natCast_mul]
  have e2 : IntKind.u64.wrap ((u * B : Nat) : Int) = ((u * B : Nat) : Int) := IntWalk.u64_in _ ⟨by omega, by omega⟩
  rw [e, e2, IntWalk.u64_in _ ⟨by omega, by omega⟩]
  omega
 have h01 := wrap_succ i (by omega)
 by_cases c1 : 48 ≤ c ∧ c ≤ 57
 ·have hd : dr c = c - 48 := by unfold dr; rw [if_pos c1]
  have e1 : ((c : Int) - 48) % 256 = ((c - 48 : Nat) : Int) := by omega
  refine Ev.step (f := fun k => salvorref1_number.j2 k s B (u : Int) (i : Int) (c : Int) 99 true) (fun k => ?_) ?_
  ·rw [salvorref1_number.l0, if_pos (by omega), if_pos (by omega), hc, if_pos (by omega), decide_eq_true (by omega)]
  ·by_cases hdB : dr c < B
   ·refine Ev.step (f := fun k => salvorref1_number.l0 k s B ((u * B + dr c : Nat) : Int) ((i + 1 : Nat) : Int)) (fun k => ?_) (h1 hdB)
    rw [salvorref1_number.j2, if_pos rfl, e1, if_neg (by omega), hw _ (by omega), h01, hd]
   ·rw [h2 hdB]
    refine Ev.step (f := fun _ => some (0, false)) (fun k => ?_) (Ev.now _)
    rw [salvorref1_number.j2, if_pos rfl, e1, if_pos (by omega)]
 ·have a2 : Ev (fun k => salvorref1_number.j2 k s B (u : Int) (i : Int) (c : Int) 99 false) r := by
   by_cases c2 : 97 ≤ c ∧ c ≤ 102
   ·have hd : dr c = c - 97 + 10 := by unfold dr; rw [if_neg c1, if_pos c2]
    have e1 : ((c : Int) - 97) % 256 + 10 = ((c - 97 + 10 : Nat) : Int) := by omega
    refine Ev.step (f := fun k => salvorref1_number.j3 k s B (u : Int) (i : Int) (c : Int) 99 true) (fun k => ?_) ?_
    ·rw [salvorref1_number.j2, if_neg (by simp), if_pos (by omega), decide_eq_true (by omega)]
    ·by_cases hdB : dr c < B
     ·refine Ev.step (f := fun k => salvorref1_number.l0 k s B ((u * B + dr c : Nat) : Int) ((i + 1 : Nat) : Int)) (fun k => ?_) (h1 hdB)
      rw [salvorref1_number.j3, if_pos rfl, e1, if_neg (by omega), hw _ (by omega), h01, hd]
     ·rw [h2 hdB]
      refine Ev.step (f := fun _ => some (0, false)) (fun k => ?_) (Ev.now _)
      rw [salvorref1_number.j3, if_pos rfl, e1, if_pos (by omega)]
   ·have a3 : Ev (fun k => salvorref1_number.j3 k s B (u : Int) (i : Int) (c : Int) 99 false) r := by
     by_cases c3 : 65 ≤ c ∧ c ≤ 70
     ·have hd : dr c = c - 65 + 10 := by unfold dr; rw [if_neg c1, if_neg c2, if_pos c3]
      have e1 : ((c : Int) - 65) % 256 + 10 = ((c - 65 + 10 : Nat) : Int) := by omega
      refine Ev.step (f := fun k => salvorref1_number.j4 k s B (u : Int) (i : Int) (c : Int) 99 true) (fun k => ?_) ?_
      ·rw [salvorref1_number.j3, if_neg (by simp), if_pos (by omega), decide_eq_true (by omega)]
      ·by_cases hdB : dr c < B
       ·refine Ev.step (f := fun k => salvorref1_number.l0 k s B ((u * B + dr c : Nat) : Int) ((i + 1 : Nat) : Int)) (fun k => ?_) (h1 hdB)
        rw [salvorref1_number.j4, if_pos rfl, e1, if_neg (by omega), hw _ (by omega), h01, hd]
       ·rw [h2 hdB]
        refine Ev.step (f := fun _ => some (0, false)) (fun k => ?_) (Ev.now _)
        rw [salvorref1_number.j4, if_pos rfl, e1, if_pos (by omega)]
     ·have hd : dr c = 99 := by unfold dr; rw [if_neg c1, if_neg c2, if_neg c3]
      rw [h2 (by omega)]
      refine Ev.step (f := fun k => salvorref1_number.j4 k s B (u : Int) (i : Int) (c : Int) 99 false) (fun k => ?_) ?_
      ·rw [salvorref1_number.j3, if_neg (by simp)]
       by_cases c4 : 65 ≤ c
       ·rw [if_pos (by omega), decide_eq_false (by omega)]
       ·rw [if_neg (by omega)]
      ·refine Ev.step (f := fun _ => some (0, false)) (fun k => ?_) (Ev.now _)
       rw [salvorref1_number.j4, if_neg (by simp), if_pos (by omega)]
    refine Ev.step (f := fun k => salvorref1_number.j3 k s B (u : Int) (i : Int) (c : Int) 99 false) (fun k => ?_) a3
    rw [salvorref1_number.j2, if_neg (by simp)]
    by_cases c4 : 97 ≤ c
    ·rw [if_pos (by omega), decide_eq_false (by omega)]
    ·rw [if_neg (by omega)]
  refine Ev.step (f := fun k => salvorref1_number.j2 k s B (u : Int) (i : Int) (c : Int) 99 false) (fun k => ?_) a2
  rw [salvorref1_number.l0, if_pos (by omega), if_pos (by omega), hc]
  by_cases c4 : 48 ≤ c
  ·rw [if_pos (by omega), decide_eq_false (by omega)]
  ·rw [if_neg (by omega)]
def inMX : Option Nat → Option Nat
 | some u => if u ≤ MX then some u else none
 | none => none
theorem num_loop (s : ByteArray) (B n : Nat) (hB1 : 1 ≤ B) (hB : B ≤ 16) (hs : s.size ≤ n) (hn : n ≤ 19) (hBn : B ^ n ≤ 18446744073709551616) : ∀ d i u : Nat, s.size - i = d → i ≤ s.size → u + 1 ≤ B ^ i →
  Ev (fun k => salvorref1_number.l0 k s B (u : Int) (i : Int)) (val (inMX (nu B u (s.data.toList.drop i)))) := by
 intro d
 induction d with
 | zero =>
  intro i u hd hi hu
  rw [List.drop_eq_nil_of_le (by rw [data_len]; omega)]
  have hu2 : u < 18446744073709551616 := by
   have : B ^ i ≤ B ^ n := Nat.pow_le_pow_right hB1 (by omega)
   omega
  by_cases c : u ≤ MX
  ·refine Ev.step (f := fun _ => some ((u : Int), true)) (fun k => ?_) ?_
   ·rw [salvorref1_number.l0, if_neg (by omega), if_neg (by unfold MX at c; omega), wrap_nat u c]
   ·simp only [nu, inMX, if_pos c]; exact Ev.now _
  ·refine Ev.step (f := fun _ => some (0, false)) (fun k => ?_) ?_
   ·rw [salvorref1_number.l0, if_neg (by omega), if_pos (by unfold MX at c; omega)]
   ·simp only [nu, inMX, if_neg c]; exact Ev.now _
 | succ d ih =>
  intro i u hd hi hu
  have hlt : i < s.size := by omega
  have hlt2 : i < s.data.toList.length := by rw [data_len]; exact hlt
  rw [List.drop_eq_getElem_cons hlt2]
  have hb := bt_data s i hlt
  obtain ⟨k1, k2⟩ := dr_dv (s.data.toList[i])
  have hpow : B ^ i * B ≤ 18446744073709551616 := by
   have : B ^ (i + 1) ≤ B ^ n := Nat.pow_le_pow_right hB1 (by omega)
   rw [Nat.pow_succ] at this; omega
  have hm : (u + 1) * B ≤ B ^ i * B := Nat.mul_le_mul_right B hu
  rw [Nat.add_mul, Nat.one_mul] at hm
  have hbound : ∀ d, d < B → u * B + d + 1 ≤ B ^ (i + 1) := by intro d hd; rw [Nat.pow_succ]; omega
  by_cases hdB : dv (s.data.toList[i]).toNat < B
  ·have hd2 := k2 (by omega)
   simp only [nu, if_pos hdB]
   refine num_step s B u i _ hB hlt (by omega) _ hb (s.data.toList[i]).toNat_lt ?_ (fun _ => ?_) (fun h => absurd (by omega) h)
   ·omega
   ·rw [hd2]
    exact ih (i + 1) _ (by omega) (by omega) (hbound _ hdB)
  ·simp only [nu, if_neg hdB]
   refine num_step s B u i _ hB hlt (by omega) _ hb (s.data.toList[i]).toNat_lt ?_ (fun h => ?_) (fun _ => rfl)
   ·omega
   ·exact absurd (by have := k1.1 (by omega); have := k2 this; omega) hdB
theorem number_ev (s : ByteArray) (B most : Nat) (hB : B = 10 ∧ most = 19 ∨ B = 16 ∧ most = 16) (hs : s.size ≤ 100000) : Ev (fun k => salvorref1_number.f k s (B : Int) (most : Int)) (val (dgN B most s.data.toList)) := by
 have hl := data_len s
 have no : Ev (fun k => salvorref1_number.j0 k s (B : Int) true) (0, false) := Ev.step (f := fun _ => some (0, false)) (fun k => by rw [salvorref1_number.j0, if_pos rfl]) (Ev.now _)
 unfold salvorref1_number.f
 by_cases h0 : s.size = 0
 ·have e : dgN B most s.data.toList = none := by
   unfold dgN dg
   rw [if_neg (by omega), if_pos (List.length_eq_zero_iff.1 (by omega))]
  rw [e]
  simp only [if_pos (show (s.size : Int) < 1 by omega)]
  exact no
 ·simp only [if_neg (show ¬ (s.size : Int) < 1 by omega)]
  by_cases h1 : most < s.size
  ·have e : dgN B most s.data.toList = none := by unfold dgN; rw [if_pos (by omega)]
   rw [e, decide_eq_true (show (s.size : Int) > (most : Int) by omega)]
   exact no
  ·have e : dgN B most s.data.toList = inMX (nu B 0 (s.data.toList.drop 0)) := by
    unfold dgN dg
    rw [if_neg (by omega), if_neg (fun h => h0 (by rw [h] at hl; simp at hl; omega))]
    rfl
   rw [e, decide_eq_false (show ¬ (s.size : Int) > (most : Int) by omega)]
   have := num_loop s B most (by omega) (by omega) (by omega) (by omega) (by rcases hB with ⟨rfl, rfl⟩ | ⟨rfl, rfl⟩ <;> decide) s.size 0 0 (by omega) (by omega) (by simp)
   refine Ev.step (f := fun k => salvorref1_number.l0 k s (B : Int) ((0 : Nat) : Int) ((0 : Nat) : Int)) (fun k => ?_) this
   rw [salvorref1_number.j0, if_neg (by simp)]; rfl
theorem refmay_ok (n : Nat) (h : n ≤ MX) : salvorref1_May.f (n : Int) = some true := by
 unfold salvorref1_May.f
 rw [if_pos (by omega)]
 exact congrArg some (decide_eq_true (by unfold MX at h; omega))
theorem rmul1_ev (l : List Nat) (hm : ∀ x ∈ l, x ≤ MX) (hp : ∀ x ∈ l, 1 ≤ x) (hl : l.length < 4611686018427387904) : ∀ d i p : Nat, l.length - i = d → i ≤ l.length → 1 ≤ p → p ≤ MX →
  Ev (fun k => salvorref1_Mul.l1 k (cast l) (p : Int) (i : Int)) (val (mulG p (l.drop i))) := by
 intro d
 induction d with
 | zero =>
  intro i p hd hi h1 h2
  rw [List.drop_eq_nil_of_le (by omega)]
  exact Ev.step (f := fun _ => some ((p : Int), true)) (fun k => by rw [salvorref1_Mul.l1, if_neg (by rw [cast_len]; omega)]) (Ev.now _)
 | succ d ih =>
  intro i p hd hi h1 h2
  have hlt : i < l.length := by omega
  have hx := hm _ (List.getElem_mem hlt)
  have hx1 := hp _ (List.getElem_mem hlt)
  have hq : wrap64 ((4611686018427387904 : Int) / (p : Int)) = ((MX / p : Nat) : Int) := by
   have : ((4611686018427387904 : Int) / (p : Int)) = ((MX / p : Nat) : Int) := rfl
   rw [this]
   exact wrap_nat _ (by have := Nat.div_le_self MX p; unfold MX at *; omega)
  rw [List.drop_eq_getElem_cons hlt, mulG]
  by_cases c : MX / p < l[i]
  ·rw [if_pos c]
   refine Ev.step (f := fun _ => some (0, false)) (fun k => ?_) (Ev.now _)
   rw [salvorref1_Mul.l1, if_pos (by rw [cast_len]; omega), if_pos (by omega), if_neg (by omega), rd_cast l i hlt, hq, if_pos (by omega)]
  ·rw [if_neg c]
   have c2 : p * l[i] ≤ MX := by
    have := (Nat.le_div_iff_mul_le h1).1 (Nat.le_of_not_lt c); rw [Nat.mul_comm]; exact this
   have := ih (i + 1) (p * l[i]) (by omega) (by omega) (Nat.mul_pos h1 hx1) c2
   refine Ev.step (f := fun k => salvorref1_Mul.l1 k (cast l) ((p * l[i] : Nat) : Int) ((i + 1 : Nat) : Int)) (fun k => ?_) this
   have hw : wrap64 ((p : Int) * (l[i] : Int)) = ((p * l[i] : Nat) : Int) := by
    rw [← Int.natCast_mul]; exact wrap_nat _ c2
   rw [salvorref1_Mul.l1, if_pos (by rw [cast_len]; omega), if_pos (by omega), if_neg (by omega), rd_cast l i hlt, hq, if_neg (by omega), hw, wrap_succ i (by omega)]
theorem rmul0_ev (l : List Nat) (hm : ∀ x ∈ l, x ≤ MX) (hl : l.length < 4611686018427387904) : ∀ d i : Nat, l.length - i = d → i ≤ l.length → ∀ z : Bool, (z = true ↔ ∃ j, ∃ h : j < l.length, j < i ∧ l[j] = 0) →
  Ev (fun k => salvorref1_Mul.l0 k (cast l) z (i : Int)) (val (mulL l)) := by
 intro d
 induction d with
 | zero =>
  intro i hd hi z hz
  cases z with
  | true =>
   obtain ⟨j, hj, _, e⟩ := hz.1 rfl
   have e : mulL l = some 0 := by unfold mulL; rw [if_pos (by rw [← e]; exact List.getElem_mem hj)]
   rw [e]
   exact Ev.step (f := fun _ => some (0, true)) (fun k => by rw [salvorref1_Mul.l0, if_neg (by rw [cast_len]; omega), if_pos rfl]) (Ev.now _)
  | false =>
   have hnz : ¬ 0 ∈ l := by
    intro h
    obtain ⟨j, hj, e⟩ := List.getElem_of_mem h
    exact absurd (hz.2 ⟨j, hj, by omega, e⟩) (by simp)
   have := rmul1_ev l hm (fun x hx => Nat.pos_of_ne_zero (fun e => hnz (e ▸ hx))) hl l.length 0 1 (by omega) (by omega) (Nat.le_refl _) (by decide)
   have e : mulL l = mulG 1 (l.drop 0) := by unfold mulL; rw [if_neg hnz]; rfl
   rw [e]
   refine Ev.step (f := fun k => salvorref1_Mul.l1 k (cast l) ((1 : Nat) : Int) ((0 : Nat) : Int)) (fun k => ?_) this
   rw [salvorref1_Mul.l0, if_neg (by rw [cast_len]; omega), if_neg (by simp)]; rfl
 | succ d ih =>
  intro i hd hi z
  have hlt : i < l.length := by omega
  have hr := rd_cast l i hlt
  have a1 : l.length - (i + 1) = d := by omega
  have a2 : i + 1 ≤ l.length := by omega
  have a3 : (i : Int) < (l.length : Int) := by omega
  have a4 : (0 : Int) ≤ (i : Int) := by omega
  have a5 := wrap_succ i (by omega)
  intro hz
  cases z with
  | true =>
   obtain ⟨j, hj, hji, e⟩ := hz.1 rfl
   have := ih (i + 1) a1 a2 true ⟨fun _ => ⟨j, hj, by omega, e⟩, fun _ => rfl⟩
   refine Ev.step (f := fun k => salvorref1_Mul.l0 k (cast l) true ((i + 1 : Nat) : Int)) (fun k => ?_) this
   rw [salvorref1_Mul.l0, if_pos (by rw [cast_len]; exact a3), if_pos a4, hr, refmay_ok _ (hm _ (List.getElem_mem hlt)), Option.bind_some, if_pos rfl, if_pos rfl, a5]
  | false =>
   have := ih (i + 1) a1 a2 ((l[i] : Int) == 0) ⟨fun h => ⟨i, hlt, by omega, by simpa using h⟩, fun ⟨j, hj, hji, e⟩ => by
    by_cases c : j = i
    ·subst c; simp [e]
    ·exact absurd (hz.2 ⟨j, hj, by omega, e⟩) (by simp)⟩
   refine Ev.step (f := fun k => salvorref1_Mul.l0 k (cast l) ((l[i] : Int) == 0) ((i + 1 : Nat) : Int)) (fun k => ?_) this
   rw [salvorref1_Mul.l0, if_pos (by rw [cast_len]; exact a3), if_pos a4, hr, refmay_ok _ (hm _ (List.getElem_mem hlt)), Option.bind_some, if_pos rfl, if_neg (by simp), a5]
theorem rmul_ev (l : List Nat) (hm : ∀ x ∈ l, x ≤ MX) (hl : l.length < 4611686018427387904) : Ev (fun k => salvorref1_Mul.f k (cast l)) (val (mulL l)) := by
 unfold salvorref1_Mul.f
 exact rmul0_ev l hm hl l.length 0 (by omega) (by omega) false ⟨fun h => by simp at h, fun ⟨j, hj, h, _⟩ => absurd h (Nat.not_lt_zero _)⟩
end Go.Proofs.YtbmhfnncagncmaaGreatDoor.PureN
end
section
namespace Go.Proofs.YtbmhfnncagncmaaGreatDoor.PureN
open Go.RowKit Go.Proofs.YtbmhfnncagncmaaGreatDoorW.PrintWords Go.Proofs.YtbmhfnncagncmaaGreatDoorW.PrintLast Go.Proofs.YtbmhfnncagncmaaGreatDoor.P Go.Proofs.YtbmhfnncagncmaaGreatDoor.Num
set_option linter.unusedVariables false
set_option linter.unusedSimpArgs false
theorem ext_mid (s : ByteArray) (a b : Nat) : (s.extract a b).data.toList = (s.data.toList.drop a).take (b - a) := by
 rw [Lib.extract_data]
theorem while_of {α : Type} (p : α → Bool) (l : List α) (n : Nat) (h1 : ∀ j, (h : j < l.length) → j < n → p l[j] = true) (h2 : ∀ h : n < l.length, p l[n] = false) (hn : n ≤ l.length) : l.takeWhile p = l.take n ∧ l.dropWhile p = l.drop n := by
 have e := List.take_append_drop n l
 have ht : ∀ x ∈ l.take n, p x = true := by
  intro x hx
  obtain ⟨j, hj, rfl⟩ := List.getElem_of_mem hx
  rw [List.length_take] at hj
  rw [List.getElem_take]
  exact h1 j (by omega) (by omega)
 have hd : (l.drop n).dropWhile p = l.drop n ∧ (l.drop n).takeWhile p = [] := by
  by_cases c : n < l.length
  ·rw [List.drop_eq_getElem_cons c, List.dropWhile_cons, List.takeWhile_cons, h2 c]
   exact ⟨rfl, rfl⟩
  ·rw [List.drop_eq_nil_of_le (by omega)]; exact ⟨rfl, rfl⟩
 constructor
 ·conv => lhs; rw [← e, List.takeWhile_append_of_pos ht, hd.2, List.append_nil]
 ·conv => lhs; rw [← e, List.dropWhile_append_of_pos ht, hd.1]
def restOf (ns : List Nat) : Option (List Nat) → Option Nat
 | some ms => mulL (ns ++ ms)
 | none => none
theorem rg_end (s : ByteArray) (hs : s.size ≤ 100000) (ns : List Nat) (hns : ∀ x ∈ ns, x ≤ MX) (hnl : ns.length ≤ 200000) (fr tt n : Nat) (h1 : fr ≤ n) (h2 : n ≤ tt) (h3 : tt ≤ s.size)
  (hp1 : ((s.data.toList.drop fr).take (tt - fr)).takeWhile isD = (s.data.toList.drop fr).take (n - fr)) (hp2 : ((s.data.toList.drop fr).take (tt - fr)).dropWhile isD = (s.data.toList.drop n).take (tt - n)) (r : Option Nat)
  (hno : partL ((s.data.toList.drop fr).take (tt - fr)) = none → r = none)
  (hyes : ∀ p, partL ((s.data.toList.drop fr).take (tt - fr)) = some p → Ev (fun k => salvorref1_Get.l0 k s (cast (ns ++ [p])) ((tt + 1 : Nat) : Int)) (val r)) :
  Ev (fun k => salvorref1_Get.j4 k s (cast ns) (fr : Int) (tt : Int) (n : Int)) (val r) := by
 have hnum := number_ev (s.extract fr n) 10 19 (.inl ⟨rfl, rfl⟩) (by rw [← data_len, ext_mid, List.length_take, List.length_drop, data_len]; omega)
 rw [ext_mid, ← hp1] at hnum
 have htm : salvorref1_times.f (s.extract n tt) = some (val (tm (((s.data.toList.drop fr).take (tt - fr)).dropWhile isD))).1 := by
  unfold salvorref1_times.f
  rw [ext_mid, ← hp2, tv_val]
 generalize hP : (s.data.toList.drop fr).take (tt - fr) = P at *
 refine Ev.step (f := fun k => (salvorref1_number.f k (s.extract fr n) 10 19).bind fun bt216 => (if bt216.2 = true then (salvorref1_Get.j5 k s (cast ns) (tt : Int) bt216.1 (val (tm (P.dropWhile isD))).1 ((val (tm (P.dropWhile isD))).1 == 0)) else (salvorref1_Get.j5 k s (cast ns) (tt : Int) bt216.1 (val (tm (P.dropWhile isD))).1 true))) (fun k => ?_) ?_
 ·rw [salvorref1_Get.j4, if_pos (by omega), if_pos (by omega), if_pos (by omega)]
  simp only [if_pos (show (0 : Int) ≤ (n : Int) by omega), if_pos (show (n : Int) ≤ (tt : Int) by omega), if_pos (show (tt : Int) ≤ (s.size : Int) by omega), Int.toNat_natCast, htm, Option.bind_some]
 refine Ev.bind hnum ?_
 have hj5 : ∀ a b : Int, Ev (fun k => salvorref1_Get.j5 k s (cast ns) (tt : Int) a b true) (0, false) := fun a b => Ev.step (f := fun _ => some (0, false)) (fun k => by rw [salvorref1_Get.j5, if_pos rfl]) (Ev.now _)
 unfold partL at hno hyes
 cases ha : dgN 10 19 (P.takeWhile isD) with
 | none =>
  rw [ha] at hno
  rw [hno rfl]
  exact hj5 _ _
 | some a =>
  cases hb : tm (P.dropWhile isD) with
  | none =>
   rw [ha, hb] at hno
   rw [hno rfl]
   exact hj5 _ _
  | some b =>
   rw [ha, hb] at hno hyes
   have hb2 := tm_le hb
   have hbz : ((val (some b)).1 == 0) = false := by
    show (((b : Nat) : Int) == 0) = false
    simpa using (show ¬ ((b : Nat) : Int) = 0 by omega)
   simp only [show (val (some a)).2 = true from rfl, if_true, hbz]
   have hm := rmul_ev [a, b] (by intro x hx; simp at hx; rcases hx with rfl | rfl; exact dgN_le ha; exact Nat.le_trans hb2.2 (by decide)) (by simp)
   refine Ev.step (f := fun k => (salvorref1_Mul.f k (cast [a, b])).bind fun bt222 => (if bt222.2 = true then (if (cast ns).length < 17592186044416 then (salvorref1_Get.l0 k s (cast ns ++ [bt222.1]) ((tt + 1 : Nat) : Int)) else (none)) else (some (0, false)))) (fun k => ?_) ?_
   ·rw [salvorref1_Get.j5, if_neg (by simp), wrap_succ tt (by omega)]; rfl
   refine Ev.bind hm ?_
   cases hq : mulL [a, b] with
   | none => rw [hno hq]; exact Ev.now _
   | some p =>
    have hc : (cast ns).length < 17592186044416 := by rw [cast_len]; omega
    have hcast : cast ns ++ [(val (some p)).1] = cast (ns ++ [p]) := by unfold cast; rw [List.map_append]; rfl
    simp only [show (val (some p)).2 = true from rfl, if_true, if_pos hc, hcast]
    exact hyes p hq
theorem take_at {α : Type} (l : List α) (a b j : Nat) (h : j < ((l.drop a).take (b - a)).length) : ((l.drop a).take (b - a))[j] = l[a + j]'(by rw [List.length_take, List.length_drop] at h; omega) := by
 rw [List.getElem_take, List.getElem_drop]
theorem rg_dig (s : ByteArray) (hs : s.size ≤ 100000) (ns : List Nat) (hns : ∀ x ∈ ns, x ≤ MX) (hnl : ns.length ≤ 200000) (fr tt : Nat) (h0 : fr ≤ tt) (h3 : tt ≤ s.size) (r : Option Nat)
  (hno : partL ((s.data.toList.drop fr).take (tt - fr)) = none → r = none)
  (hyes : ∀ p, partL ((s.data.toList.drop fr).take (tt - fr)) = some p → Ev (fun k => salvorref1_Get.l0 k s (cast (ns ++ [p])) ((tt + 1 : Nat) : Int)) (val r)) :
  ∀ d n : Nat, tt - n = d → fr ≤ n → n ≤ tt → (∀ j, (h : j < s.data.toList.length) → fr ≤ j → j < n → isD s.data.toList[j] = true) → Ev (fun k => salvorref1_Get.l2 k s (cast ns) (fr : Int) (tt : Int) (n : Int)) (val r) := by
 have hlen := data_len s
 have fin : ∀ n : Nat, fr ≤ n → n ≤ tt → (∀ j, (h : j < s.data.toList.length) → fr ≤ j → j < n → isD s.data.toList[j] = true) → (∀ h : n < s.data.toList.length, n < tt → isD s.data.toList[n] = false) → Ev (fun k => salvorref1_Get.j4 k s (cast ns) (fr : Int) (tt : Int) (n : Int)) (val r) := by
  intro n hn1 hn2 hd hnd
  have hPl : ((s.data.toList.drop fr).take (tt - fr)).length = tt - fr := by rw [List.length_take, List.length_drop]; omega
  obtain ⟨k1, k2⟩ := while_of isD ((s.data.toList.drop fr).take (tt - fr)) (n - fr) (fun j h hj => by
    rw [take_at]; exact hd _ (by omega) (by omega) (by omega)) (fun h => by
    rw [take_at]
    have := hnd (by omega) (by omega)
    simp only [show fr + (n - fr) = n by omega]; exact this) (by omega)
  refine rg_end s hs ns hns hnl fr tt n hn1 hn2 h3 ?_ ?_ r hno hyes
  ·rw [k1, List.take_take, Nat.min_eq_left (by omega)]
  ·rw [k2, List.drop_take, List.drop_drop, show fr + (n - fr) = n by omega, show tt - fr - (n - fr) = tt - n by omega]
 intro d
 induction d with
 | zero =>
  intro n hd h1 h2 hD
  refine Ev.step (f := fun k => salvorref1_Get.j4 k s (cast ns) (fr : Int) (tt : Int) (n : Int)) (fun k => ?_) (fin n h1 h2 hD (fun h hh => by omega))
  rw [salvorref1_Get.l2, if_neg (by omega)]
 | succ d ih =>
  intro n hd h1 h2 hD
  have hlt : n < s.size := by omega
  have hb := bt_data s n hlt
  by_cases c : isD (s.data.toList[n]'(by rw [hlen]; exact hlt)) = true
  ·have c2 := c
   unfold isD at c2
   rw [Bool.and_eq_true, decide_eq_true_iff, decide_eq_true_iff] at c2
   have := ih (n + 1) (by omega) (by omega) (by omega) (fun j hj hfj hji => by
    by_cases e : j = n
    ·subst e; exact c
    ·exact hD j hj hfj (by omega))
   refine Ev.step (f := fun k => salvorref1_Get.l2 k s (cast ns) (fr : Int) (tt : Int) ((n + 1 : Nat) : Int)) (fun k => ?_) this
   rw [salvorref1_Get.l2, if_pos (by omega), if_pos (by omega), if_pos (by omega), hb, if_pos (by omega), if_pos (by omega), wrap_succ n (by omega)]
  ·have c1 : isD (s.data.toList[n]'(by rw [hlen]; exact hlt)) = false := by simpa using c
   refine Ev.step (f := fun k => salvorref1_Get.j4 k s (cast ns) (fr : Int) (tt : Int) (n : Int)) (fun k => ?_) (fin n h1 h2 hD (fun h _ => c1))
   unfold isD at c1
   rw [Bool.and_eq_false_iff, decide_eq_false_iff_not, decide_eq_false_iff_not] at c1
   rw [salvorref1_Get.l2, if_pos (by omega), if_pos (by omega), if_pos (by omega), hb]
   by_cases c3 : ((s.data.toList[n]'(by rw [hlen]; exact hlt)).toNat : Int) ≥ 48
   ·rw [if_pos c3, if_neg (by omega)]
   ·rw [if_neg c3]
theorem rg_loop (s : ByteArray) (hs : s.size ≤ 100000) : ∀ (m : Nat) (fr : Nat), s.size + 1 - fr ≤ m → fr ≤ s.size → ∀ ns : List Nat, (∀ x ∈ ns, x ≤ MX) → ns.length ≤ fr → Ev (fun k => salvorref1_Get.l0 k s (cast ns) (fr : Int)) (val (restOf ns (partsL (pieces 120 (s.data.toList.drop fr))))) := by
 have hlen := data_len s
 intro m
 induction m with
 | zero => intro fr h1 h2; omega
 | succ m ih =>
  intro fr h1 h2 ns hns hnl
  have scan : ∀ d tt : Nat, s.size - tt = d → fr ≤ tt → tt ≤ s.size → (∀ j, (h : j < s.data.toList.length) → fr ≤ j → j < tt → s.data.toList[j] ≠ 120) → Ev (fun k => salvorref1_Get.l1 k s (cast ns) (fr : Int) (tt : Int)) (val (restOf ns (partsL (pieces 120 (s.data.toList.drop fr))))) := by
   have fin : ∀ tt : Nat, fr ≤ tt → tt ≤ s.size → (∀ j, (h : j < s.data.toList.length) → fr ≤ j → j < tt → s.data.toList[j] ≠ 120) → (∀ h : tt < s.data.toList.length, s.data.toList[tt] = 120) → Ev (fun k => salvorref1_Get.j2 k s (cast ns) (fr : Int) (tt : Int)) (val (restOf ns (partsL (pieces 120 (s.data.toList.drop fr))))) := by
    intro tt ht1 ht2 hx hxe
    obtain ⟨k1, k2⟩ := while_of (fun b : UInt8 => decide (b ≠ 120)) (s.data.toList.drop fr) (tt - fr) (fun j h hj => by
      rw [List.getElem_drop]; exact decide_eq_true (hx _ _ (by omega) (by omega))) (fun h => by
      rw [List.getElem_drop]
      have := hxe (by rw [List.length_drop] at h; omega)
      simp only [show fr + (tt - fr) = tt by omega, this]; rfl) (by rw [List.length_drop]; omega)
    rw [List.drop_drop, show fr + (tt - fr) = tt by omega] at k2
    have hpc := pieces_cons 120 (s.data.toList.drop fr)
    rw [k1, k2] at hpc
    refine Ev.step (f := fun k => salvorref1_Get.l2 k s (cast ns) (fr : Int) (tt : Int) (fr : Int)) (fun k => ?_) ?_
    ·rw [salvorref1_Get.j2]
    refine rg_dig s hs ns hns (by omega) fr tt ht1 ht2 _ ?_ ?_ (tt - fr) fr rfl (Nat.le_refl _) ht1 (fun j h a b => by omega)
    ·intro e
     rw [hpc, partsL, e]; rfl
    ·intro p e
     have hpm := partL_le e
     by_cases c : tt < s.size
     ·have hdr : s.data.toList.drop tt = s.data.toList[tt]'(by rw [hlen]; exact c) :: s.data.toList.drop (tt + 1) := List.drop_eq_getElem_cons (by rw [hlen]; exact c)
      have := ih (tt + 1) (by omega) (by omega) (ns ++ [p]) (by
       intro x hx
       rcases List.mem_append.1 hx with hx | hx
       ·exact hns x hx
       ·obtain rfl := List.mem_singleton.1 hx; exact hpm) (by simp; omega)
      rw [hpc, hdr, partsL, e]
      simp only
      cases hq : partsL (pieces 120 (s.data.toList.drop (tt + 1))) with
      | none => rw [hq] at this; exact this
      | some ms =>
       rw [hq] at this
       simp only [restOf, Option.map_some, List.append_assoc, List.singleton_append] at this ⊢
       exact this
     ·have hte : tt = s.size := by omega
      have hdr : s.data.toList.drop tt = [] := List.drop_eq_nil_of_le (by omega)
      rw [hpc, hdr, partsL, e]
      simp only [partsL, restOf, Option.map_some]
      have hm := rmul_ev (ns ++ [p]) (by
       intro x hx
       rcases List.mem_append.1 hx with hx | hx
       ·exact hns x hx
       ·obtain rfl := List.mem_singleton.1 hx; exact hpm) (by simp; omega)
      refine Ev.step (f := fun k => (salvorref1_Mul.f k (cast (ns ++ [p]))).bind fun bt214 => some (bt214.1, bt214.2)) (fun k => ?_) (Ev.bind hm (Ev.now _))
      rw [salvorref1_Get.l0, if_neg (by omega)]
   intro d
   induction d with
   | zero =>
    intro tt hd ht1 ht2 hx
    refine Ev.step (f := fun k => salvorref1_Get.j2 k s (cast ns) (fr : Int) (tt : Int)) (fun k => ?_) (fin tt ht1 ht2 hx (fun h => by omega))
    rw [salvorref1_Get.l1, if_neg (by omega)]
   | succ d ih2 =>
    intro tt hd ht1 ht2 hx
    have hlt : tt < s.size := by omega
    have hb := bt_data s tt hlt
    by_cases c : s.data.toList[tt]'(by rw [hlen]; exact hlt) = 120
    ·refine Ev.step (f := fun k => salvorref1_Get.j2 k s (cast ns) (fr : Int) (tt : Int)) (fun k => ?_) (fin tt ht1 ht2 hx (fun h => c))
     rw [salvorref1_Get.l1, if_pos (by omega), if_pos (by omega), hb, c, if_pos (by decide)]
    ·have := ih2 (tt + 1) (by omega) (by omega) (by omega) (fun j hj hfj hji => by
      by_cases e : j = tt
      ·subst e; exact c
      ·exact hx j hj hfj (by omega))
     have c2 : ¬ ((s.data.toList[tt]'(by rw [hlen]; exact hlt)).toNat : Int) = 120 := by intro e; exact c (UInt8.toNat_inj.1 (by have : ((120 : UInt8).toNat : Int) = 120 := rfl; omega))
     refine Ev.step (f := fun k => salvorref1_Get.l1 k s (cast ns) (fr : Int) ((tt + 1 : Nat) : Int)) (fun k => ?_) this
     rw [salvorref1_Get.l1, if_pos (by omega), if_pos (by omega), hb, if_neg c2, wrap_succ tt (by omega)]
  refine Ev.step (f := fun k => salvorref1_Get.l1 k s (cast ns) (fr : Int) (fr : Int)) (fun k => ?_) (scan (s.size - fr) fr rfl (Nat.le_refl _) h2 (fun j h a b => by omega))
  rw [salvorref1_Get.l0, if_pos (by omega)]
theorem refGet_ev (s : ByteArray) (hs : s.size ≤ 100000) : Ev (fun k => salvorref1_Get.f k s) (val (getL s.data.toList)) := by
 have := rg_loop s hs (s.size + 1) 0 (by omega) (by omega) [] (by simp) (by simp)
 unfold salvorref1_Get.f
 rw [List.drop_zero] at this
 have e : restOf [] (partsL (pieces 120 s.data.toList)) = getL s.data.toList := by
  unfold getL restOf
  cases partsL (pieces 120 s.data.toList) <;> rfl
 rw [e] at this
 exact this
end Go.Proofs.YtbmhfnncagncmaaGreatDoor.PureN
end
