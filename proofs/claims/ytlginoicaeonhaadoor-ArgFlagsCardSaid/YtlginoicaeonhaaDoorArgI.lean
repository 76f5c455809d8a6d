/- Plain laws: flags and others, as the reference takes them. No program in sight. No conditions beyond those that the lemmas name. -/
import Derived.Test.YtlginoicaeonhaaDoorPx0
import Derived.Test.YtlginoicaeonhaaDoorPx19
import Derived.Test.YtlginoicaeonhaaDoorPx20
import Derived.Test.YtlginoicaeonhaaDoorArgH
import Derived.Test.YtlginoicaeonhaaDoorArgA
import Derived.Test.YtlginoicaeonhaaDoorFlG
namespace Go.Proofs.YtlginoicaeonhaaDoor.Pure
open Go.RowKit Go.Proofs.YtlginoicaeonhaaDoorW.PrintWords Go.Proofs.YtlginoicaeonhaaDoorW.PrintLast Go.Proofs.YtlginoicaeonhaaDoor.P
set_option linter.unusedVariables false
set_option linter.unusedSimpArgs false
def res : Option (List S31 × List ByteArray) → List S31 × List ByteArray × Bool
  | some x => (x.1, x.2, true)
  | none => ([], [], false)
theorem runT_fuel (fl : List S72) : ∀ (N n : Nat) (l : List ByteArray), n ≤ N → l.length ≤ n → ∀ o r, P.runT fl n l o r = P.runT fl l.length l o r := by
  intro N
  induction N with
  | zero =>
    intro n l h1 h2 o r
    have : l.length = 0 := by omega
    obtain rfl := List.length_eq_zero_iff.1 this
    obtain rfl : n = 0 := by omega
    rfl
  | succ N ih =>
    intro n l h1 h2 o r
    cases l with
    | nil => cases n <;> rfl
    | cons s l =>
      obtain ⟨m, rfl⟩ : ∃ m, n = m + 1 := ⟨n - 1, by simp at h2; omega⟩
      have hl : l.length ≤ m := by simp at h2; omega
      rw [List.length_cons, P.runT, P.runT]
      split
      · rfl
      · cases e : oneT fl l o r s with
        | none => rfl
        | some x =>
          obtain ⟨_, _, h3, _⟩ := oneT_mu e
          simp only
          rw [ih m x.1 (by omega) (by omega), ih l.length x.1 (by omega) h3]
/-- All arguments, with as many rounds as there are. -/
def RR (fl : List S72) (l : List ByteArray) (o : List S31) (r : List ByteArray) : Option (List S31 × List ByteArray) := P.runT fl l.length l o r
theorem RR_nil (fl : List S72) (o : List S31) (r : List ByteArray) : RR fl [] o r = some (o, r) := rfl
def nextR (fl : List S72) (r : List ByteArray) : Option (List ByteArray × List S31) → Option (List S31 × List ByteArray)
  | none => none
  | some x => RR fl x.1 x.2 r
theorem RR_cons (fl : List S72) (s : ByteArray) (l : List ByteArray) (o : List S31) (r : List ByteArray) : RR fl (s :: l) o r = if s.toList = [45, 45] then some (o, r ++ l) else match oneT fl l o r s with
    | none => none
    | some x => RR fl x.1 x.2.1 x.2.2 := by
  unfold RR
  rw [List.length_cons, P.runT]
  split
  · rfl
  · cases e : oneT fl l o r s with
    | none => rfl
    | some x =>
      obtain ⟨_, _, h3, _⟩ := oneT_mu e
      exact runT_fuel fl l.length l.length x.1 (Nat.le_refl _) h3 _ _
theorem dl (s : ByteArray) : s.data.toList.length = s.size := Array.length_toList
theorem hp2 (l : List UInt8) : Lib.hasPrefix l [45, 45] = true ↔ l.take 2 = [45, 45] := by
  unfold Lib.hasPrefix
  rcases l with _ | ⟨x, _ | ⟨y, r⟩⟩
  · simp [List.isPrefixOf]
  · simp [List.isPrefixOf]
  · constructor
    · intro h; simp [List.isPrefixOf] at h; obtain ⟨rfl, rfl⟩ := h; rfl
    · intro h; simp at h; obtain ⟨rfl, rfl⟩ := h; rfl
theorem hp1 (l : List UInt8) : Lib.hasPrefix l [45] = true ↔ ∃ r, l = 45 :: r := by
  unfold Lib.hasPrefix
  rcases l with _ | ⟨x, r⟩
  · simp [List.isPrefixOf]
  · constructor
    · intro h; simp [List.isPrefixOf] at h; subst h; exact ⟨r, rfl⟩
    · rintro ⟨r', h⟩; simp at h; obtain ⟨rfl, rfl⟩ := h; rfl
theorem bt_list (s : ByteArray) (j : Nat) (hj : j < s.data.toList.length) : bt s j = ((s.data.toList[j]).toNat : Int) := by
  have hs : j < s.size := by rw [← dl]; exact hj
  have := bt_at s (j : Int) (by simpa using hs)
  rw [← this]
  simp
  rfl
theorem ext_l (s : ByteArray) (a b : Nat) : (s.extract a b).data.toList = (s.data.toList.drop a).take (b - a) := by
  rw [Lib.extract_data]
theorem drop_get (l : List ByteArray) (i : Nat) (hi : i < l.length) : l.drop i = l[i] :: l.drop (i + 1) := List.drop_eq_getElem_cons hi
theorem rdg (l : List ByteArray) (i : Nat) (hi : i < l.length) : rdOf ByteArray.empty l (i : Int) = l[i] := by simp [rdOf, hi]
section
variable (a0 : ByteArray) (l1 : List ByteArray) (ha : a0.size < 4611686018427387904) (hl1 : l1.length ≤ 1000)
include ha hl1
/-- Letters side by side. -/
theorem short_ev (i : Nat) (hi : i < l1.length) (s t : ByteArray) (hst : s.data.toList = 45 :: t.data.toList) (hss : s.size ≤ 1000) (r : List ByteArray) (B : Nat) (hB : B ≤ 10000000)
    (K : ∀ (i' : Nat) (o' : List S31), i + 1 ≤ i' → i' ≤ l1.length → o'.length ≤ B → Ev (fun k => salvorref6_Flags.l0 k a0 l1 (i' : Int) o' r) (res (RR (FF a0 a0.size) (l1.drop i') o' r))) :
    ∀ (d j : Nat) (o : List S31), t.size - j = d → j ≤ t.size → o.length + d ≤ B → Ev (fun k => salvorref6_Flags.l1 k a0 l1 (i : Int) s ((j + 1 : Nat) : Int) o r) (res (nextR (FF a0 a0.size) r (shortT (FF a0 a0.size) t d j (l1.drop (i + 1)) o))) := by
  have hsz : s.size = t.size + 1 := by rw [← dl, ← dl, hst, List.length_cons]
  intro d
  induction d with
  | zero =>
    intro j o hd hj ho
    rw [shortT]
    refine Ev.step (f := fun k => salvorref6_Flags.l0 k a0 l1 ((i + 1 : Nat) : Int) o r) (fun k => ?_) (K (i + 1) o (Nat.le_refl _) (by omega) (by omega))
    rw [salvorref6_Flags.l1, if_neg (by omega), wn i (by omega)]
  | succ d ih =>
    intro j o hd hj ho
    have hjt : j < t.size := by omega
    have HB := Aside0.mk (show bt s ((j + 1 : Nat) : Int) = bt t j by
      rw [bt_list s (j + 1) (by rw [hst, List.length_cons, dl]; omega), bt_list t j (by rw [dl]; exact hjt)]
      simp only [hst, List.getElem_cons_succ])
    have hx1 : s.extract (j + 1) (j + 2) = t.extract j (j + 1) := by
      apply Go.WideShapes.bytes_inj
      rw [ext_l, ext_l, hst, List.drop_succ_cons, show j + 2 - (j + 1) = j + 1 - j by omega]
    have hx2 : s.extract (j + 2) s.size = t.extract (j + 1) t.size := by
      apply Go.WideShapes.bytes_inj
      rw [Lib.extract_to_end, Lib.extract_to_end, hst, List.drop_succ_cons]
    have hx2l : (t.extract (j + 1) t.size).toList = [] ↔ ¬ j + 1 < t.size := by
      rw [toList_nil]
      have : (t.extract (j + 1) t.size).size = t.size - (j + 1) := by
        rw [← dl, Lib.extract_to_end, List.length_drop, dl]
      omega
    have hk := kind_ev a0 ha (bt t j)
    have hb : ∀ x : S31, (o ++ [x]).length ≤ B := fun x => by rw [List.length_append, List.length_singleton]; omega
    have hb2 : ∀ x : S31, (o ++ [x]).length + d ≤ B := fun x => by rw [List.length_append, List.length_singleton]; omega
    have hj64 : j + 1 < 4611686018427387904 := by omega
    have hs64 : s.size < 4611686018427387904 := by omega
    have hi64 : i < 4611686018427387904 := by omega
    have hi65 : i + 1 < 4611686018427387904 := by omega
    have go : ∀ (v : Int) (X : List S31 × List ByteArray × Bool), v = kindV (FF a0 a0.size) (bt t j) →
        Ev (fun k => (if v = 0 then (some (([] : List (S31)), ([] : List ByteArray), false)) else (if v = 2 then (salvorref6_Flags.j5 k a0 l1 (i : Int) s ((j + 1 : Nat) : Int) v (decide (((j + 2 : Nat) : Int) < (s.size : Int))) o r (t.extract j (j + 1)) (⟨#[]⟩ : ByteArray)) else (salvorref6_Flags.j5 k a0 l1 (i : Int) s ((j + 1 : Nat) : Int) v false o r (t.extract j (j + 1)) (⟨#[]⟩ : ByteArray))))) X →
        Ev (fun k => salvorref6_Flags.l1 k a0 l1 (i : Int) s ((j + 1 : Nat) : Int) o r) X := by
      intro v X hv hX
      refine Ev.step (f := fun k => (salvorref6_kind.f k a0 (bt t j)).bind fun t210 => (if t210 = 0 then (some (([] : List (S31)), ([] : List ByteArray), false)) else (if t210 = 2 then (salvorref6_Flags.j5 k a0 l1 (i : Int) s ((j + 1 : Nat) : Int) t210 (decide (((j + 2 : Nat) : Int) < (s.size : Int))) o r (t.extract j (j + 1)) (⟨#[]⟩ : ByteArray)) else (salvorref6_Flags.j5 k a0 l1 (i : Int) s ((j + 1 : Nat) : Int) t210 false o r (t.extract j (j + 1)) (⟨#[]⟩ : ByteArray))))) (fun k => ?_) (Ev.bind hk (hv ▸ hX))
      rw [salvorref6_Flags.l1, wn (j + 1) hj64, if_pos (by omega), if_pos (by omega), if_pos (by omega), if_pos (by omega), HB.out, Int.toNat_natCast, Int.toNat_natCast, hx1]
    rw [shortT]
    by_cases c1 : 0 ≤ idxF (FF a0 a0.size) (bt t j)
    · rw [if_neg (by simpa using c1)]
      by_cases c2 : (rd_T72 (FF a0 a0.size) (idxF (FF a0 a0.size) (bt t j))).f1 = true
      · rw [if_pos c2]
        refine go 2 _ (by unfold kindV; rw [if_pos c1, if_pos c2]) ?_
        clear c1 c2 go hk
        simp only [if_neg (show ¬ (2 : Int) = 0 by omega), if_true]
        unfold valueT
        by_cases c3 : j + 1 < t.size
        · rw [if_neg (by rw [hx2l]; omega), decide_eq_true (show ((j + 2 : Nat) : Int) < (s.size : Int) by omega)]
          refine Ev.step (f := fun k => salvorref6_Flags.l1 k a0 l1 (i : Int) s ((s.size + 1 : Nat) : Int) (o ++ [⟨t.extract j (j + 1), t.extract (j + 1) t.size⟩]) r) (fun k => ?_) (Ev.step (f := fun k => salvorref6_Flags.l0 k a0 l1 ((i + 1 : Nat) : Int) (o ++ [⟨t.extract j (j + 1), t.extract (j + 1) t.size⟩]) r) (fun k => ?_) (K (i + 1) _ (Nat.le_refl _) (by omega) (hb _)))
          · rw [salvorref6_Flags.j5, if_pos rfl, wn (j + 1) hj64, if_pos (by omega), if_pos (by omega), if_pos (by omega), wn s.size hs64, Int.toNat_natCast, hx2]
          · rw [salvorref6_Flags.l1, if_neg (by omega), wn i hi64]
        · rw [if_pos (hx2l.2 c3), decide_eq_false (show ¬ ((j + 2 : Nat) : Int) < (s.size : Int) by omega)]
          by_cases c4 : i + 1 < l1.length
          · rw [drop_get l1 (i + 1) c4]
            simp only
            refine Ev.step (f := fun k => salvorref6_Flags.l1 k a0 l1 ((i + 1 : Nat) : Int) s ((j + 2 : Nat) : Int) (o ++ [⟨t.extract j (j + 1), l1[i + 1]⟩]) r) (fun k => ?_) (Ev.step (f := fun k => salvorref6_Flags.l0 k a0 l1 ((i + 2 : Nat) : Int) (o ++ [⟨t.extract j (j + 1), l1[i + 1]⟩]) r) (fun k => ?_) (K (i + 2) _ (by omega) (by omega) (hb _)))
            · rw [salvorref6_Flags.j5, if_neg (by simp), if_pos rfl, wn i hi64, if_neg (by omega), if_pos (by omega), if_pos (by omega), if_pos (by omega), rdg l1 (i + 1) c4, wn (j + 1) hj64]
            · rw [salvorref6_Flags.l1, if_neg (by omega), wn (i + 1) hi65]
          · rw [List.drop_eq_nil_of_le (by omega)]
            refine Ev.step (f := fun _ => some ([], [], false)) (fun k => ?_) (Ev.now _)
            rw [salvorref6_Flags.j5, if_neg (by simp), if_pos rfl, wn i hi64, if_pos (by omega)]
      · rw [if_neg c2]
        refine go 1 _ (by unfold kindV; rw [if_pos c1, if_neg c2]) ?_
        clear c1 c2 go hk
        simp only [if_neg (show ¬ (1 : Int) = 0 by omega), if_neg (show ¬ (1 : Int) = 2 by omega)]
        refine Ev.step (f := fun k => salvorref6_Flags.l1 k a0 l1 (i : Int) s ((j + 1 + 1 : Nat) : Int) (o ++ [⟨t.extract j (j + 1), ⟨#[]⟩⟩]) r) (fun k => ?_) (ih (j + 1) _ (by omega) (by omega) (hb2 _))
        rw [salvorref6_Flags.j5, if_neg (by simp), if_neg (by omega), if_pos (by omega), wn (j + 1) hj64]
    · rw [if_pos (by simpa using c1)]
      refine go 0 _ (by unfold kindV; rw [if_neg c1]) ?_
      simp only [if_true]
      exact Ev.now _
end
end Go.Proofs.YtlginoicaeonhaaDoor.Pure
