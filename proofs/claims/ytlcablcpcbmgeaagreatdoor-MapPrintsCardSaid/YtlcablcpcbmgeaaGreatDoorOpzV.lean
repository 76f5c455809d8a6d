/- Plain laws of numbers, of seat 2's: what the program's functions answer. No program in sight. No conditions. -/
import Derived.Test.YtlcablcpcbmgeaaGreatDoorPx0
import Derived.Test.YtlcablcpcbmgeaaGreatDoorPx6
import Derived.Test.YtlcablcpcbmgeaaGreatDoorPx7
import Derived.Test.YtlcablcpcbmgeaaGreatDoorPx8
import Derived.Test.YtlcablcpcbmgeaaGreatDoorPx9
import Derived.Test.YtlcablcpcbmgeaaGreatDoorPx17
import Derived.Test.YtlcablcpcbmgeaaGreatDoorPx18
import Derived.Test.YtlcablcpcbmgeaaGreatDoorNumD
import Derived.Test.YtlcablcpcbmgeaaGreatDoorOpzU
import Derived.Lib.SplitLaws
import Derived.Lib.SmallJoins
namespace Go.Proofs.YtlcablcpcbmgeaaGreatDoor.PureN
open Go.RowKit Go.Proofs.YtlcablcpcbmgeaaGreatDoorW.PrintWords Go.Proofs.YtlcablcpcbmgeaaGreatDoorW.PrintLast Go.Proofs.YtlcablcpcbmgeaaGreatDoor.P Go.Proofs.YtlcablcpcbmgeaaGreatDoor.Num
-- names: num_digits.f num_GetDec.f num_GetHex.f num_Dec.f num_Hex.f strings_CutPrefix.f strconv_Itoa_52.f strconv_FormatInt_56.f strings_ToUpper.f strings_Repeat.f
set_option linter.unusedVariables false
set_option linter.unusedSimpArgs false
theorem wrap_nat (n : Nat) (h : n ≤ 4611686018427387904) : wrap64 (n : Int) = (n : Int) := by unfold wrap64; omega
theorem wrap_succ (n : Nat) (h : n < 4611686018427387904) : wrap64 ((n : Int) + 1) = ((n + 1 : Nat) : Int) := by unfold wrap64; omega
theorem data_len (s : ByteArray) : s.data.toList.length = s.size := Array.length_toList
theorem bt_data (s : ByteArray) (j : Nat) (hj : j < s.size) : bt s j = ((s.data.toList[j]'(by rw [Array.length_toList]; exact hj)).toNat : Int) := by
  have := bt_at s (j : Int) (by simpa using hj)
  rw [← this]
  simp
  rfl
theorem ext_take (s : ByteArray) (n : Nat) : (s.extract 0 n).data.toList = s.data.toList.take n := by
  rw [Lib.extract_data]; simp
theorem ext_drop (s : ByteArray) (n : Nat) : (s.extract n s.size).data.toList = s.data.toList.drop n := Lib.extract_to_end s n
theorem digits_f (s : ByteArray) (B most : Nat) (hB : B = 10 ∨ B = 16) (hs : s.size ≤ 100000) : num_digits.f s (B : Int) (most : Int) = some (val (dgN B most s.data.toList)) := by
  unfold num_digits.f dgN
  rw [data_len]
  by_cases h : most < s.size
  · rw [if_pos (by omega), if_pos h]; rfl
  · rw [if_neg (by omega), if_neg h, if_pos ⟨by omega, hs⟩]
    rfl
theorem val_pair (x : Option Nat) : (some (val x)).bind (fun bt => some (bt.1, bt.2)) = some (val x) := by cases x <;> rfl
theorem tv_val (x : Option Nat) : tv x = val x := by cases x <;> rfl
theorem occ_bt (s : ByteArray) (c : UInt8) (j : Nat) (hj : j < s.size) : Lib.occAt s.data.toList [c] j = decide (bt s j = (c.toNat : Int)) := by
  have hl : s.data.toList.length = s.size := Array.length_toList
  unfold Lib.occAt
  rw [List.drop_eq_getElem_cons (by rw [hl]; exact hj)]
  have e : bt s j = ((s.data.toList[j]'(by rw [hl]; exact hj)).toNat : Int) := by
    have := bt_at s (j : Int) (by simpa using hj)
    rw [← this]
    simp
    rfl
  rw [e]
  generalize s.data.toList[j] = a
  simp only [List.isPrefixOf, Bool.and_true]
  by_cases h : c = a
  · subst h; simp
  · have h2 : ¬ (a.toNat : Int) = (c.toNat : Int) := fun e => h (UInt8.toNat_inj.1 (by omega)).symm
    simp [h, h2]
theorem words_ok (c : UInt8) : ∀ (k : Nat) (s : ByteArray), Lib.countB s ⟨#[c]⟩ = k → jn c ((Lib.splitB ⟨#[c]⟩ 0 k s).map (·.data.toList)) = s.data.toList ∧ ∀ p ∈ Lib.splitB ⟨#[c]⟩ 0 k s, ∀ j : Nat, j < p.size → bt p j ≠ (c.toNat : Int)
  | k, s, hk => by
    have hl : s.data.toList.length = s.size := Array.length_toList
    rcases Lib.indexB_cases s ⟨#[c]⟩ with h | ⟨i, h, hi⟩
    · rw [Lib.splitB_miss _ _ _ _ h]
      refine ⟨rfl, fun p hp j hj e => ?_⟩
      obtain rfl := List.mem_singleton.1 hp
      rcases Lib.index_spec p.data.toList [c] with ⟨_, h2⟩ | ⟨i, h1, h2, h3, _⟩
      · have := h2 j (by rw [hl]; omega)
        rw [occ_bt p c j hj, decide_eq_false_iff_not] at this
        exact this e
      · have h' : Lib.index p.data.toList [c] = -1 := h
        omega
    · have hsz : (⟨#[c]⟩ : ByteArray).size = 1 := rfl
      rw [hsz] at hi
      have hc := Lib.countB_hit s ⟨#[c]⟩ i (by rw [hsz]; omega) h
      rw [hsz] at hc
      cases k with
      | zero => omega
      | succ k =>
        rw [Lib.splitB_hit _ _ _ _ _ h, hsz, Nat.add_zero]
        obtain ⟨h1, h2⟩ := words_ok c k (s.extract (i + 1) s.size) (by omega)
        have hix : Lib.index s.data.toList [c] = i := h
        have hno : Lib.NoOcc s.data.toList [c] i ∧ Lib.occAt s.data.toList [c] i = true := by
          rcases Lib.index_spec s.data.toList [c] with ⟨h3, _⟩ | ⟨j, h3, h4, h5, h6⟩
          · omega
          · obtain rfl : i = j := by omega
            exact ⟨h6, h5⟩
        obtain ⟨hno, hoc⟩ := hno
        rw [occ_bt s c i (by omega), decide_eq_true_iff] at hoc
        refine ⟨?_, fun p hp j hj => ?_⟩
        · have hne : Lib.splitB ⟨#[c]⟩ 0 k (s.extract (i + 1) s.size) ≠ [] := by
            intro e
            have := Lib.splitB_all ⟨#[c]⟩ (by rw [hsz]; omega) 0 k (s.extract (i + 1) s.size) (by omega)
            rw [e] at this; simp at this
          obtain ⟨y, r, hyr⟩ := List.exists_cons_of_ne_nil hne
          rw [hyr] at h1 ⊢
          simp only [List.map_cons] at h1 ⊢
          rw [jn, h1, Lib.extract_from_zero, Lib.extract_to_end]
          have hci : s.data.toList[i]'(by rw [hl]; omega) = c := by
            rw [bt_data s i (by omega)] at hoc
            exact UInt8.toNat_inj.1 (Int.ofNat_inj.1 hoc)
          conv => rhs; rw [← List.take_append_drop i s.data.toList]
          rw [List.drop_eq_getElem_cons (i := i) (l := s.data.toList) (by rw [hl]; omega), hci]
        · rcases List.mem_cons.1 hp with rfl | hp
          · have hps : (s.extract 0 i).size = i := by
              have := congrArg List.length (Lib.extract_from_zero s i)
              rw [Array.length_toList, List.length_take, hl] at this
              have h9 : (s.extract 0 i).size = (s.extract 0 i).data.size := rfl
              omega
            rw [hps] at hj
            have e1 : bt (s.extract 0 i) j = bt s j := by
              rw [bt_data _ j (by omega), bt_data s j (by omega)]
              simp only [Lib.extract_from_zero]
              rw [List.getElem_take]
            rw [e1]
            have := hno j hj
            rw [occ_bt s c j (by omega), decide_eq_false_iff_not] at this
            exact this
          · exact h2 p hp j hj
/-- Split at one byte. -/
theorem split_pieces (c : UInt8) (s : ByteArray) : (Lib.splitB ⟨#[c]⟩ 0 (Lib.countB s ⟨#[c]⟩) s).map (·.data.toList) = pieces c s.data.toList := by
  obtain ⟨h1, h2⟩ := words_ok c _ s rfl
  have hne : Lib.splitB ⟨#[c]⟩ 0 (Lib.countB s ⟨#[c]⟩) s ≠ [] := by
    intro e
    have := Lib.splitB_all ⟨#[c]⟩ (by show 1 ≤ 1; omega) 0 (Lib.countB s ⟨#[c]⟩) s rfl
    rw [e] at this; simp at this
  rw [← h1, pieces_jn c _ (by simpa using hne)]
  intro p hp b hb
  obtain ⟨q, hq, rfl⟩ := List.mem_map.1 hp
  obtain ⟨j, hj, rfl⟩ := List.getElem_of_mem hb
  have hj2 : j < q.size := by rw [← data_len]; exact hj
  have := h2 q hq j hj2
  rw [bt_data q j hj2] at this
  intro e
  rw [e] at this
  exact this rfl
theorem pieces_size (c : UInt8) (l : List UInt8) : (∀ p ∈ pieces c l, p.length ≤ l.length) ∧ (pieces c l).length ≤ l.length + 1 := by
  induction l with
  | nil => simp [pieces]
  | cons x r ih =>
    obtain ⟨h1, h2⟩ := ih
    rw [pieces]
    split
    · refine ⟨fun p hp => ?_, by simp; omega⟩
      rcases List.mem_cons.1 hp with rfl | hp
      · simp
      · have := h1 p hp; simp; omega
    · split
      · next p ps e =>
        rw [e] at h1 h2
        refine ⟨fun q hq => ?_, by simp at h2 ⊢; omega⟩
        rcases List.mem_cons.1 hq with rfl | hq
        · have := h1 p List.mem_cons_self; simp; omega
        · have := h1 q (List.mem_cons_of_mem _ hq); simp; omega
      · refine ⟨fun q hq => ?_, by simp⟩
        obtain rfl := List.mem_singleton.1 hq
        simp
theorem getDec_f (s : ByteArray) (hs : s.size ≤ 100000) : num_GetDec.f s = some (val (if 1 < s.size ∧ s.data.toList.head? = some 48 then none else dgN 10 19 s.data.toList)) := by
  have hd := digits_f s 10 19 (.inl rfl) hs
  replace hd : num_digits.f s 10 19 = some (val (dgN 10 19 s.data.toList)) := hd
  unfold num_GetDec.f
  by_cases h : 1 < s.size
  · have hb := bt_data s 0 (by omega)
    have hh : s.data.toList.head? = some (s.data.toList[0]'(by rw [data_len]; omega)) := by
      rw [List.head?_eq_getElem?, List.getElem?_eq_getElem]
    rw [if_pos (by omega), if_pos (by omega), show bt s 0 = _ from hb, hd]
    by_cases c : (s.data.toList[0]'(by rw [data_len]; omega)) = 48
    · rw [c, if_pos (by decide), if_pos ⟨h, by rw [hh, c]⟩]; rfl
    · rw [if_neg (by intro e; exact c (UInt8.toNat_inj.1 (by have : ((48 : UInt8).toNat : Int) = 48 := rfl; omega))), if_neg (by rintro ⟨_, e⟩; rw [hh] at e; exact c (Option.some.inj e))]
      exact val_pair _
  · rw [if_neg (by omega), if_neg (by omega), hd]
    exact val_pair _
theorem pre_0x (l : List UInt8) : Lib.hasPrefix l [48, 120] = true ↔ l.take 2 = [48, 120] := by
  unfold Lib.hasPrefix
  rcases l with _ | ⟨x, _ | ⟨y, r⟩⟩
  · simp [List.isPrefixOf]
  · simp [List.isPrefixOf]
  · constructor
    · intro h
      simp [List.isPrefixOf] at h
      obtain ⟨rfl, rfl⟩ := h
      rfl
    · intro h
      simp at h
      obtain ⟨rfl, rfl⟩ := h
      rfl
theorem getHex_f (s : ByteArray) (hs : s.size ≤ 100000) : num_GetHex.f s = some (val (if s.data.toList.take 2 = [48, 120] then dgN 16 16 (s.data.toList.drop 2) else none)) := by
  unfold num_GetHex.f strings_CutPrefix.f
  rw [Option.bind_some, show (⟨#[48, 120]⟩ : ByteArray).data.toList = [48, 120] from rfl]
  by_cases h : s.data.toList.take 2 = [48, 120]
  · have h2 := (pre_0x s.data.toList).2 h
    have ht : Lib.trimPrefix s.data.toList [48, 120] = s.data.toList.drop 2 := by
      unfold Lib.trimPrefix
      rw [if_pos h2]; rfl
    have hd := digits_f ⟨(s.data.toList.drop 2).toArray⟩ 16 16 (.inr rfl) (by
      show (List.toArray _).size ≤ _; rw [List.size_toArray, List.length_drop, data_len]; omega)
    have e2 : (⟨(s.data.toList.drop 2).toArray⟩ : ByteArray).data.toList = s.data.toList.drop 2 := by simp
    rw [e2] at hd
    rw [ht, h2, if_pos h]
    show ((num_digits.f ⟨(s.data.toList.drop 2).toArray⟩ 16 16).bind fun bt128 => some (bt128.1, bt128.2)) = _
    rw [show num_digits.f ⟨(s.data.toList.drop 2).toArray⟩ 16 16 = _ from hd]
    exact val_pair _
  · have h2 : Lib.hasPrefix s.data.toList [48, 120] = false := by
      cases c : Lib.hasPrefix s.data.toList [48, 120] with
      | false => rfl
      | true => exact absurd ((pre_0x _).1 c) h
    rw [h2, if_neg h]; rfl
theorem itoa_f (n : Int) (h0 : -9223372036854775808 ≤ n) (h1 : n ≤ 9223372036854775807) : num_Dec.f n = some ⟨(Lib.itoa n).toArray⟩ := by
  unfold num_Dec.f strconv_Itoa_52.f
  rw [if_pos ⟨h0, h1⟩]; rfl
theorem hex_f (n : Int) (h1 : n ≤ 9223372036854775807) : num_Hex.f n = some (if n < 0 then ⟨#[]⟩ else ⟨(hexT n.toNat).toArray⟩) := by
  unfold num_Hex.f
  by_cases h : n < 0
  · rw [if_pos h, if_pos h]
  · rw [if_neg h, if_neg h, if_pos h1]
end Go.Proofs.YtlcablcpcbmgeaaGreatDoor.PureN
