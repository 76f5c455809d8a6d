/- Plain laws for ArgJoined: letters side by side. No program in sight. No conditions. -/
import Derived.Test.YtlginoicaeonhaaDoorPx0
import Derived.Test.YtlginoicaeonhaaDoorArgB
import Derived.Test.YtlginoicaeonhaaDoorFlG
import Derived.Lib.SmallJoins
namespace Go.Proofs.YtlginoicaeonhaaDoor.Pure
open Go.RowKit Go.Proofs.YtlginoicaeonhaaDoorW.PrintWords Go.Proofs.YtlginoicaeonhaaDoorW.PrintLast Go.Proofs.YtlginoicaeonhaaDoor.P
set_option linter.unusedVariables false
set_option linter.unusedSimpArgs false
def FL : List S72 := [⟨97, false⟩, ⟨98, false⟩, ⟨99, false⟩, ⟨118, true⟩]
theorem spec_abcv : specL (bytesOf ⟨#[97, 98, 99, 118, 58]⟩ 0) [] = some FL := by kernel_rfl
/-- One letter: 'a', 'b' or 'c'. -/
def ch (x : Int) : ByteArray := (⟨#[97, 98, 99]⟩ : ByteArray).extract ((Int.tmod x 3) : Int).toNat ((((Int.tmod x 3) + 1) % 256) : Int).toNat
theorem ch_cases (x : Int) (h : 0 ≤ x) : (ch x = ⟨#[97]⟩ ∨ ch x = ⟨#[98]⟩ ∨ ch x = ⟨#[99]⟩) ∧ 0 ≤ Int.tmod x 3 ∧ Int.tmod x 3 ≤ 2 := by
  have e : Int.tmod x 3 = x % 3 := Int.tmod_eq_emod_of_nonneg h
  have h1 : x % 3 = 0 ∨ x % 3 = 1 ∨ x % 3 = 2 := by omega
  unfold ch
  rw [e]
  rcases h1 with h1 | h1 | h1 <;> rw [h1]
  · exact ⟨.inl (by decide +kernel), by decide⟩
  · exact ⟨.inr (.inl (by decide +kernel)), by decide⟩
  · exact ⟨.inr (.inr (by decide +kernel)), by decide⟩
/-- The bytes of letters. -/
def lt (x : Int) : UInt8 := if x % 3 = 0 then 97 else if x % 3 = 1 then 98 else 99
theorem ch_lt (x : Int) (h : 0 ≤ x) : ch x = ⟨#[lt x]⟩ := by
  have e : Int.tmod x 3 = x % 3 := Int.tmod_eq_emod_of_nonneg h
  have h1 : x % 3 = 0 ∨ x % 3 = 1 ∨ x % 3 = 2 := by omega
  unfold ch lt
  rw [e]
  rcases h1 with h1 | h1 | h1 <;> rw [h1] <;> decide +kernel
theorem idx_lt (x : Int) : ∃ k : Nat, k < 3 ∧ idxF FL ((lt x).toNat : Int) = (k : Int) ∧ (rd_T72 FL (k : Int)).f1 = false := by
  unfold lt
  split
  · exact ⟨0, by omega, by decide +kernel, by decide +kernel⟩
  · split
    · exact ⟨1, by omega, by decide +kernel, by decide +kernel⟩
    · exact ⟨2, by omega, by decide +kernel, by decide +kernel⟩
theorem idx_v : idxF FL 118 = 3 ∧ (rd_T72 FL 3).f1 = true := by decide +kernel
theorem ext1 (t : ByteArray) (i : Nat) (hi : i < t.size) : t.extract i (i + 1) = ⟨#[t.data.toList[i]'(by rw [Array.length_toList]; exact hi)]⟩ := by
  apply Go.WideShapes.bytes_inj
  rw [Lib.extract_data]
  simp only [Array.toList_extract]
  have hl : t.data.toList.length = t.size := Array.length_toList
  rw [Nat.add_sub_cancel_left, List.drop_eq_getElem_cons (by rw [hl]; exact hi)]
  rfl
/-- Letters side by side, from an index on, put their options; then the rest is taken. -/
theorem short_run (xs : List Int) (hx : ∀ x ∈ xs, 0 ≤ x) (t : ByteArray) (tail : List UInt8) (ht : t.data.toList = xs.map lt ++ tail) (l : List ByteArray) : ∀ (m i r : Nat), i + m = xs.length → ∀ o : List S31, shortT FL t (m + r) i l o = shortT FL t r xs.length l (o ++ (xs.drop i).map fun x => (⟨ch x, ⟨#[]⟩⟩ : S31))
  | 0, i, r, h, o => by
    obtain rfl : i = xs.length := by omega
    rw [List.drop_length, List.map_nil, List.append_nil, Nat.zero_add]
  | m + 1, i, r, h, o => by
    have hl : t.data.toList.length = t.size := Array.length_toList
    have hi : i < xs.length := by omega
    have hts : i < t.size := by rw [← hl, ht, List.length_append, List.length_map]; omega
    have hb : t.data.toList[i]'(by rw [hl]; exact hts) = lt xs[i] := by
      simp only [ht]
      rw [List.getElem_append_left (by rw [List.length_map]; exact hi), List.getElem_map]
    have hbt : bt t i = ((lt xs[i]).toNat : Int) := by
      have := bt_at t (i : Int) (by simpa using hts)
      rw [← this]
      have e2 : t[(i : Int).toNat]'(by simpa using hts) = t.data.toList[i]'(by rw [hl]; exact hts) := by simp; rfl
      rw [e2, hb]
    obtain ⟨k, hk, h1, h2⟩ := idx_lt xs[i]
    rw [show m + 1 + r = (m + r) + 1 from by omega, shortT, hbt, h1, if_neg (by simp), if_neg (by rw [h2]; simp), ext1 t i hts, hb, ← ch_lt xs[i] (hx _ (List.getElem_mem hi)),
      short_run xs hx t tail ht l m (i + 1) r (by omega), List.append_assoc, List.drop_eq_getElem_cons hi]
    rfl
end Go.Proofs.YtlginoicaeonhaaDoor.Pure
