/- Plain laws for ArgJoined: Flags of the three forms. No program in sight. No conditions. -/
import Derived.Test.YtlginoicaeonhaaDoorPx0
import Derived.Test.YtlginoicaeonhaaDoorPx6
import Derived.Test.YtlginoicaeonhaaDoorArgF
namespace Go.Proofs.YtlginoicaeonhaaDoor.Pure
open Go.RowKit Go.Proofs.YtlginoicaeonhaaDoorW.PrintWords Go.Proofs.YtlginoicaeonhaaDoorW.PrintLast Go.Proofs.YtlginoicaeonhaaDoor.P
set_option linter.unusedVariables false
set_option linter.unusedSimpArgs false
def dd : ByteArray := ⟨#[45, 45]⟩
def vv : ByteArray := ⟨#[118]⟩
theorem head_q (xs : List Int) (vd : List UInt8) : ∃ b q, xs.map lt ++ 118 :: vd = b :: q ∧ b ≠ 45 := by
  cases xs with
  | nil => exact ⟨118, vd, rfl, by decide⟩
  | cons x xs => exact ⟨lt x, xs.map lt ++ 118 :: vd, rfl, lt_ne x⟩
/-- One argument: letters, then v, then what stands behind it. -/
theorem one_v (xs : List Int) (hx : ∀ x ∈ xs, 0 ≤ x) (s : ByteArray) (vd : List UInt8) (hs : s.data.toList = 45 :: (xs.map lt ++ 118 :: vd)) (l : List ByteArray) (o : List S31) (r : List ByteArray) : (¬ s.toList = [45, 45]) ∧ oneT FL l o r s = (valueT l (o ++ OL xs) vv ⟨vd.toArray⟩).map fun x => (x.1, x.2, r) := by
  obtain ⟨b, q, hq, hb⟩ := head_q xs vd
  rw [hq] at hs
  refine ⟨not_dd s b q hs hb, ?_⟩
  rw [one_short s b q hs hb, short_v xs hx ⟨(b :: q).toArray⟩ vd (by rw [hq]) l o]
  rfl
theorem run_joined (xs : List Int) (hx : ∀ x ∈ xs, 0 ≤ x) (s val : ByteArray) (hv : ¬ val.toList = []) (hs : s.data.toList = 45 :: (xs.map lt ++ 118 :: val.data.toList)) (rest : List ByteArray) (n : Nat) : P.runT FL (n + 2) (s :: dd :: rest) [] [] = some (OL xs ++ [⟨vv, val⟩], rest) := by
  obtain ⟨h1, h2⟩ := one_v xs hx s val.data.toList hs (dd :: rest) [] []
  have hval : (⟨val.data.toList.toArray⟩ : ByteArray) = val := Go.WideShapes.bytes_inj (by simp)
  rw [hval, valueT, if_neg hv] at h2
  rw [run_one (n + 1) s (dd :: rest) (dd :: rest) [] (OL xs ++ [⟨vv, val⟩]) [] [] h1 (by rw [h2]; rfl), run_dd n dd rest _ _ (by decide +kernel)]
  rfl
theorem run_apart (xs : List Int) (hx : ∀ x ∈ xs, 0 ≤ x) (s val : ByteArray) (hs : s.data.toList = 45 :: (xs.map lt ++ [118])) (rest : List ByteArray) (o : List S31) (n : Nat) : P.runT FL (n + 2) (s :: val :: dd :: rest) o [] = some (o ++ OL xs ++ [⟨vv, val⟩], rest) := by
  obtain ⟨h1, h2⟩ := one_v xs hx s [] hs (val :: dd :: rest) o []
  rw [valueT, if_pos (by decide +kernel)] at h2
  rw [run_one (n + 1) s (val :: dd :: rest) (dd :: rest) o (o ++ OL xs ++ [⟨vv, val⟩]) [] [] h1 (by rw [h2]; rfl), run_dd n dd rest _ _ (by decide +kernel)]
  rfl
theorem run_many (val : ByteArray) (rest : List ByteArray) : ∀ (xs : List Int) (hx : ∀ x ∈ xs, 0 ≤ x) (o : List S31) (n : Nat), P.runT FL (n + 2 + xs.length) (xs.map (fun x => (⟨#[45]⟩ : ByteArray) ++ ch x) ++ (⟨#[45, 118]⟩ :: val :: dd :: rest)) o [] = some (o ++ OL xs ++ [⟨vv, val⟩], rest)
  | [], hx, o, n => by
    have h := run_apart [] (by intro x h; cases h) ⟨#[45, 118]⟩ val rfl rest o n
    simpa [OL] using h
  | x :: xs, hx, o, n => by
    have hx0 := hx x List.mem_cons_self
    have hd : ((⟨#[45]⟩ : ByteArray) ++ ch x).data.toList = 45 :: lt x :: [] := by rw [Go.Joins.data_append, ch_lt x hx0]; rfl
    have hc : (⟨(lt x :: []).toArray⟩ : ByteArray) = ch x := by rw [ch_lt x hx0]
    have h1 := one_short ((⟨#[45]⟩ : ByteArray) ++ ch x) (lt x) [] hd (lt_ne x) (xs.map (fun x => (⟨#[45]⟩ : ByteArray) ++ ch x) ++ (⟨#[45, 118]⟩ :: val :: dd :: rest)) o []
    rw [hc, short_one x hx0] at h1
    rw [List.map_cons, List.cons_append, List.length_cons, show n + 2 + (xs.length + 1) = (n + 2 + xs.length) + 1 from by omega,
      run_one _ _ _ _ o (o ++ [⟨ch x, ⟨#[]⟩⟩]) [] [] (not_dd _ (lt x) [] hd (lt_ne x)) h1, run_many val rest xs (fun y hy => hx y (List.mem_cons_of_mem _ hy)) _ n]
    simp [OL]
theorem flags_of (l : List ByteArray) (hl : l.length ≤ 40) (hs : ∀ s ∈ l, s.size ≤ 1000) (o : List S31) (r : List ByteArray) (h : P.runT FL (l.length + 1) l [] [] = some (o, r)) : arg_Flags.f ⟨#[97, 98, 99, 118, 58]⟩ l = some (o, r, true) := by
  have hm := mu_le l 1000 hs
  unfold arg_Flags.f flagsF
  rw [if_pos ⟨by decide, fun s h => by have := hs s h; omega, by have : l.length * (1000 + 1) ≤ 40 * 1001 := Nat.mul_le_mul_right _ hl; omega⟩, spec_abcv]
  simp only
  rw [if_neg (by omega), h]
end Go.Proofs.YtlginoicaeonhaaDoor.Pure
