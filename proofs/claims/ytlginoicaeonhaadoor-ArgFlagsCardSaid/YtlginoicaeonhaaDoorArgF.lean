/- Plain laws for ArgJoined: what Flags makes of letters with and without their value beside them. No program in sight. No conditions. -/
import Derived.Test.YtlginoicaeonhaaDoorPx0
import Derived.Test.YtlginoicaeonhaaDoorArgE
namespace Go.Proofs.YtlginoicaeonhaaDoor.Pure
open Go.RowKit Go.Proofs.YtlginoicaeonhaaDoorW.PrintWords Go.Proofs.YtlginoicaeonhaaDoorW.PrintLast Go.Proofs.YtlginoicaeonhaaDoor.P
set_option linter.unusedVariables false
set_option linter.unusedSimpArgs false
theorem lt_ne (x : Int) : lt x ≠ 45 := by
  unfold lt
  split
  · decide
  · split <;> decide
def OL (xs : List Int) : List S31 := xs.map fun x => (⟨ch x, ⟨#[]⟩⟩ : S31)
theorem short_v (xs : List Int) (hx : ∀ x ∈ xs, 0 ≤ x) (t : ByteArray) (vd : List UInt8) (ht : t.data.toList = xs.map lt ++ 118 :: vd) (l : List ByteArray) (o : List S31) : shortT FL t t.size 0 l o = valueT l (o ++ OL xs) ⟨#[118]⟩ ⟨vd.toArray⟩ := by
  have hl : t.data.toList.length = t.size := Array.length_toList
  have hsz : t.size = xs.length + (1 + vd.length) := by rw [← hl, ht, List.length_append, List.length_map, List.length_cons]; omega
  have h := short_run xs hx t (118 :: vd) ht l xs.length 0 (1 + vd.length) (by omega) o
  rw [← hsz, List.drop_zero] at h
  rw [h]
  have hts : xs.length < t.size := by omega
  have hb : t.data.toList[xs.length]'(by rw [hl]; exact hts) = 118 := by
    simp only [ht]
    rw [List.getElem_append_right (by rw [List.length_map]; exact Nat.le_refl _)]
    simp
  have hbt : bt t xs.length = 118 := by
    have := bt_at t (xs.length : Int) (by simpa using hts)
    rw [← this]
    have e2 : t[(xs.length : Int).toNat]'(by simpa using hts) = t.data.toList[xs.length]'(by rw [hl]; exact hts) := by simp; rfl
    rw [e2, hb]; rfl
  rw [show 1 + vd.length = vd.length + 1 from by omega, shortT, hbt, idx_v.1, if_neg (by simp), if_pos idx_v.2, ext1 t xs.length hts, hb]
  have e3 : t.extract (xs.length + 1) t.size = ⟨vd.toArray⟩ := by
    apply Go.WideShapes.bytes_inj
    rw [Lib.extract_to_end, ht, show xs.map lt ++ 118 :: vd = (xs.map lt ++ [118]) ++ vd from by simp, List.drop_left' (by simp)]
  rw [e3]; rfl
theorem short_one (x : Int) (hx : 0 ≤ x) (l : List ByteArray) (o : List S31) : shortT FL (ch x) (ch x).size 0 l o = some (l, o ++ [⟨ch x, ⟨#[]⟩⟩]) := by
  have hd : (ch x).data.toList = [x].map lt ++ [] := by rw [ch_lt x hx]; rfl
  have h := short_run [x] (by intro y hy; obtain rfl := List.mem_singleton.1 hy; exact hx) (ch x) [] hd l 1 0 0 rfl o
  have hs : (ch x).size = 1 + 0 := by rw [ch_lt x hx]; rfl
  rw [hs, h]; rfl
/-- One argument of letters. -/
theorem one_short (s : ByteArray) (b : UInt8) (q : List UInt8) (hs : s.data.toList = 45 :: b :: q) (hb : b ≠ 45) (l : List ByteArray) (o : List S31) (r : List ByteArray) : oneT FL l o r s = (shortT FL ⟨(b :: q).toArray⟩ (⟨(b :: q).toArray⟩ : ByteArray).size 0 l o).map fun x => (x.1, x.2, r) := by
  have h2 : Lib.hasPrefix s.data.toList [45, 45] = false := by
    rw [hs]; unfold Lib.hasPrefix
    have : ((45 : UInt8) == b) = false := by simpa using fun e => hb e.symm
    simp [List.isPrefixOf, this]
  have h1 : Lib.hasPrefix s.data.toList [45] = true := by
    rw [hs]; unfold Lib.hasPrefix; simp [List.isPrefixOf]
  have hp : pre1 s = ⟨(b :: q).toArray⟩ := by
    unfold pre1 Lib.trimPrefix
    rw [if_pos h1, hs]; rfl
  unfold oneT
  rw [if_neg (by rw [h2]; simp), hp, if_pos ⟨h1, by rw [toList_nil]; show ¬ (List.toArray (b :: q)).size = 0; simp⟩]
theorem run_dd (n : Nat) (s : ByteArray) (l : List ByteArray) (o : List S31) (r : List ByteArray) (h : s.toList = [45, 45]) : P.runT FL (n + 1) (s :: l) o r = some (o, r ++ l) := by
  rw [P.runT, if_pos h]
theorem run_one (n : Nat) (s : ByteArray) (l l' : List ByteArray) (o o' : List S31) (r r' : List ByteArray) (h : ¬ s.toList = [45, 45]) (h1 : oneT FL l o r s = some (l', o', r')) : P.runT FL (n + 1) (s :: l) o r = P.runT FL n l' o' r' := by
  rw [P.runT, if_neg h, h1]
theorem not_dd (s : ByteArray) (b : UInt8) (q : List UInt8) (hs : s.data.toList = 45 :: b :: q) (hb : b ≠ 45) : ¬ s.toList = [45, 45] := by
  rw [ByteArray.toList_eq, hs]
  intro e
  injection e with _ e
  injection e with e _
  exact hb e
theorem mu_le (l : List ByteArray) (m : Nat) (h : ∀ s ∈ l, s.size ≤ m) : mu l ≤ l.length * (m + 1) := by
  induction l with
  | nil => simp [mu]
  | cons s l ih =>
    have h1 := h s List.mem_cons_self
    have h2 := ih (fun x hx => h x (List.mem_cons_of_mem _ hx))
    simp only [mu, List.map_cons, List.sum_cons, List.length_cons, Nat.add_mul, Nat.one_mul] at h2 ⊢
    omega
end Go.Proofs.YtlginoicaeonhaaDoor.Pure
