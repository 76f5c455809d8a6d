/- Plain laws: the reference's Get. No program in sight. No conditions beyond those that the lemmas name. -/
import Derived.Test.YtalcenfcknmchaaDoorPx0
import Derived.Test.YtalcenfcknmchaaDoorPx16
import Derived.Test.YtalcenfcknmchaaDoorPx18
import Derived.Test.YtalcenfcknmchaaDoorPx20
import Derived.Test.YtalcenfcknmchaaDoorPx21
import Derived.Test.YtalcenfcknmchaaDoorNumW
namespace Go.Proofs.YtalcenfcknmchaaDoor.Pure
open Go.RowKit Go.Proofs.YtalcenfcknmchaaDoorW.PrintWords Go.Proofs.YtalcenfcknmchaaDoorW.PrintLast Go.Proofs.YtalcenfcknmchaaDoor.P Go.Proofs.YtalcenfcknmchaaDoor.Num
set_option linter.unusedVariables false
set_option linter.unusedSimpArgs false
theorem ext_mid (s : ByteArray) (a b : Nat) : (s.extract a b).data.toList = (s.data.toList.drop a).take (b - a) := by
  rw [Lib.extract_data]
/-- How a list's first part that keeps tt a test is told by its end. -/
theorem while_of {α : Type} (p : α → Bool) (l : List α) (n : Nat) (h1 : ∀ j, (h : j < l.length) → j < n → p l[j] = true) (h2 : ∀ h : n < l.length, p l[n] = false) (hn : n ≤ l.length) : l.takeWhile p = l.take n ∧ l.dropWhile p = l.drop n := by
  have e := List.take_append_drop n l
  have ht : ∀ x ∈ l.take n, p x = true := by
    intro x hx
    obtain ⟨j, hj, rfl⟩ := List.getElem_of_mem hx
    rw [List.length_take] at hj
    rw [List.getElem_take]
    exact h1 j (by omega) (by omega)
  have hd : (l.drop n).dropWhile p = l.drop n ∧ (l.drop n).takeWhile p = [] := by
    by_cases c : n < l.length
    · rw [List.drop_eq_getElem_cons c, List.dropWhile_cons, List.takeWhile_cons, h2 c]
      exact ⟨rfl, rfl⟩
    · rw [List.drop_eq_nil_of_le (by omega)]; exact ⟨rfl, rfl⟩
  constructor
  · conv => lhs; rw [← e, List.takeWhile_append_of_pos ht, hd.2, List.append_nil]
  · conv => lhs; rw [← e, List.dropWhile_append_of_pos ht, hd.1]
def restOf (ns : List Nat) : Option (List Nat) → Option Nat
  | some ms => mulL (ns ++ ms)
  | none => none
/-- From the end of a part on. -/
theorem rg_end (s : ByteArray) (hs : s.size ≤ 100000) (ns : List Nat) (hns : ∀ x ∈ ns, x ≤ MX) (hnl : ns.length ≤ 200000) (fr tt n : Nat) (h1 : fr ≤ n) (h2 : n ≤ tt) (h3 : tt ≤ s.size)
    (hp1 : ((s.data.toList.drop fr).take (tt - fr)).takeWhile isD = (s.data.toList.drop fr).take (n - fr)) (hp2 : ((s.data.toList.drop fr).take (tt - fr)).dropWhile isD = (s.data.toList.drop n).take (tt - n)) (r : Option Nat)
    (hno : partL ((s.data.toList.drop fr).take (tt - fr)) = none → r = none)
    (hyes : ∀ p, partL ((s.data.toList.drop fr).take (tt - fr)) = some p → Ev (fun k => salvorref1_Get.l0 k s (cast (ns ++ [p])) ((tt + 1 : Nat) : Int)) (val r)) :
    Ev (fun k => salvorref1_Get.j4 k s (cast ns) (fr : Int) (tt : Int) (n : Int)) (val r) := by
  have hnum := number_ev (s.extract fr n) 10 19 (.inl ⟨rfl, rfl⟩) (by rw [← data_len, ext_mid, List.length_take, List.length_drop, data_len]; omega)
  rw [ext_mid, ← hp1] at hnum
  have htm : salvorref1_times.f (s.extract n tt) = some (val (tm (((s.data.toList.drop fr).take (tt - fr)).dropWhile isD))).1 := by
    unfold salvorref1_times.f
    rw [ext_mid, ← hp2, tv_val]
  generalize hP : (s.data.toList.drop fr).take (tt - fr) = P at *
  refine Ev.step (f := fun k => (salvorref1_number.f k (s.extract fr n) 10 19).bind fun bt216 => (if bt216.2 = true then (salvorref1_Get.j5 k s (cast ns) (tt : Int) bt216.1 (val (tm (P.dropWhile isD))).1 ((val (tm (P.dropWhile isD))).1 == 0)) else (salvorref1_Get.j5 k s (cast ns) (tt : Int) bt216.1 (val (tm (P.dropWhile isD))).1 true))) (fun k => ?_) ?_
  · rw [salvorref1_Get.j4, if_pos (by omega), if_pos (by omega), if_pos (by omega)]
    simp only [if_pos (show (0 : Int) ≤ (n : Int) by omega), if_pos (show (n : Int) ≤ (tt : Int) by omega), if_pos (show (tt : Int) ≤ (s.size : Int) by omega), Int.toNat_natCast, htm, Option.bind_some]
  refine Ev.bind hnum ?_
  have hj5 : ∀ a b : Int, Ev (fun k => salvorref1_Get.j5 k s (cast ns) (tt : Int) a b true) (0, false) := fun a b => Ev.step (f := fun _ => some (0, false)) (fun k => by rw [salvorref1_Get.j5, if_pos rfl]) (Ev.now _)
  unfold partL at hno hyes
  cases ha : dgN 10 19 (P.takeWhile isD) with
  | none =>
    rw [ha] at hno
    rw [hno rfl]
    exact hj5 _ _
  | some a =>
    cases hb : tm (P.dropWhile isD) with
    | none =>
      rw [ha, hb] at hno
      rw [hno rfl]
      exact hj5 _ _
    | some b =>
      rw [ha, hb] at hno hyes
      have hb2 := tm_le hb
      have hbz : ((val (some b)).1 == 0) = false := by
        show (((b : Nat) : Int) == 0) = false
        simpa using (show ¬ ((b : Nat) : Int) = 0 by omega)
      simp only [show (val (some a)).2 = true from rfl, if_true, hbz]
      have hm := rmul_ev [a, b] (by intro x hx; simp at hx; rcases hx with rfl | rfl; exact dgN_le ha; exact Nat.le_trans hb2.2 (by decide)) (by simp)
      refine Ev.step (f := fun k => (salvorref1_Mul.f k (cast [a, b])).bind fun bt222 => (if bt222.2 = true then (if (cast ns).length < 17592186044416 then (salvorref1_Get.l0 k s (cast ns ++ [bt222.1]) ((tt + 1 : Nat) : Int)) else (none)) else (some (0, false)))) (fun k => ?_) ?_
      · rw [salvorref1_Get.j5, if_neg (by simp), wrap_succ tt (by omega)]; rfl
      refine Ev.bind hm ?_
      cases hq : mulL [a, b] with
      | none => rw [hno hq]; exact Ev.now _
      | some p =>
        have hc : (cast ns).length < 17592186044416 := by rw [cast_len]; omega
        have hcast : cast ns ++ [(val (some p)).1] = cast (ns ++ [p]) := by unfold cast; rw [List.map_append]; rfl
        simp only [show (val (some p)).2 = true from rfl, if_true, if_pos hc, hcast]
        exact hyes p hq
theorem take_at {α : Type} (l : List α) (a b j : Nat) (h : j < ((l.drop a).take (b - a)).length) : ((l.drop a).take (b - a))[j] = l[a + j]'(by rw [List.length_take, List.length_drop] at h; omega) := by
  rw [List.getElem_take, List.getElem_drop]
/-- Over the digits of a part. -/
theorem rg_dig (s : ByteArray) (hs : s.size ≤ 100000) (ns : List Nat) (hns : ∀ x ∈ ns, x ≤ MX) (hnl : ns.length ≤ 200000) (fr tt : Nat) (h0 : fr ≤ tt) (h3 : tt ≤ s.size) (r : Option Nat)
    (hno : partL ((s.data.toList.drop fr).take (tt - fr)) = none → r = none)
    (hyes : ∀ p, partL ((s.data.toList.drop fr).take (tt - fr)) = some p → Ev (fun k => salvorref1_Get.l0 k s (cast (ns ++ [p])) ((tt + 1 : Nat) : Int)) (val r)) :
    ∀ d n : Nat, tt - n = d → fr ≤ n → n ≤ tt → (∀ j, (h : j < s.data.toList.length) → fr ≤ j → j < n → isD s.data.toList[j] = true) → Ev (fun k => salvorref1_Get.l2 k s (cast ns) (fr : Int) (tt : Int) (n : Int)) (val r) := by
  have hlen := data_len s
  have fin : ∀ n : Nat, fr ≤ n → n ≤ tt → (∀ j, (h : j < s.data.toList.length) → fr ≤ j → j < n → isD s.data.toList[j] = true) → (∀ h : n < s.data.toList.length, n < tt → isD s.data.toList[n] = false) → Ev (fun k => salvorref1_Get.j4 k s (cast ns) (fr : Int) (tt : Int) (n : Int)) (val r) := by
    intro n hn1 hn2 hd hnd
    have hPl : ((s.data.toList.drop fr).take (tt - fr)).length = tt - fr := by rw [List.length_take, List.length_drop]; omega
    obtain ⟨k1, k2⟩ := while_of isD ((s.data.toList.drop fr).take (tt - fr)) (n - fr) (fun j h hj => by
        rw [take_at]; exact hd _ (by omega) (by omega) (by omega)) (fun h => by
        rw [take_at]
        have := hnd (by omega) (by omega)
        simp only [show fr + (n - fr) = n by omega]; exact this) (by omega)
    refine rg_end s hs ns hns hnl fr tt n hn1 hn2 h3 ?_ ?_ r hno hyes
    · rw [k1, List.take_take, Nat.min_eq_left (by omega)]
    · rw [k2, List.drop_take, List.drop_drop, show fr + (n - fr) = n by omega, show tt - fr - (n - fr) = tt - n by omega]
  intro d
  induction d with
  | zero =>
    intro n hd h1 h2 hD
    refine Ev.step (f := fun k => salvorref1_Get.j4 k s (cast ns) (fr : Int) (tt : Int) (n : Int)) (fun k => ?_) (fin n h1 h2 hD (fun h hh => by omega))
    rw [salvorref1_Get.l2, if_neg (by omega)]
  | succ d ih =>
    intro n hd h1 h2 hD
    have hlt : n < s.size := by omega
    have hb := bt_data s n hlt
    by_cases c : isD (s.data.toList[n]'(by rw [hlen]; exact hlt)) = true
    · have c2 := c
      unfold isD at c2
      rw [Bool.and_eq_true, decide_eq_true_iff, decide_eq_true_iff] at c2
      have := ih (n + 1) (by omega) (by omega) (by omega) (fun j hj hfj hji => by
        by_cases e : j = n
        · subst e; exact c
        · exact hD j hj hfj (by omega))
      refine Ev.step (f := fun k => salvorref1_Get.l2 k s (cast ns) (fr : Int) (tt : Int) ((n + 1 : Nat) : Int)) (fun k => ?_) this
      rw [salvorref1_Get.l2, if_pos (by omega), if_pos (by omega), if_pos (by omega), hb, if_pos (by omega), if_pos (by omega), wrap_succ n (by omega)]
    · have c1 : isD (s.data.toList[n]'(by rw [hlen]; exact hlt)) = false := by simpa using c
      refine Ev.step (f := fun k => salvorref1_Get.j4 k s (cast ns) (fr : Int) (tt : Int) (n : Int)) (fun k => ?_) (fin n h1 h2 hD (fun h _ => c1))
      unfold isD at c1
      rw [Bool.and_eq_false_iff, decide_eq_false_iff_not, decide_eq_false_iff_not] at c1
      rw [salvorref1_Get.l2, if_pos (by omega), if_pos (by omega), if_pos (by omega), hb]
      by_cases c3 : ((s.data.toList[n]'(by rw [hlen]; exact hlt)).toNat : Int) ≥ 48
      · rw [if_pos c3, if_neg (by omega)]
      · rw [if_neg c3]
/-- The parts, from a place on. -/
theorem rg_loop (s : ByteArray) (hs : s.size ≤ 100000) : ∀ (m : Nat) (fr : Nat), s.size + 1 - fr ≤ m → fr ≤ s.size → ∀ ns : List Nat, (∀ x ∈ ns, x ≤ MX) → ns.length ≤ fr → Ev (fun k => salvorref1_Get.l0 k s (cast ns) (fr : Int)) (val (restOf ns (partsL (pieces 120 (s.data.toList.drop fr))))) := by
  have hlen := data_len s
  intro m
  induction m with
  | zero => intro fr h1 h2; omega
  | succ m ih =>
    intro fr h1 h2 ns hns hnl
    -- where the part ends
    have scan : ∀ d tt : Nat, s.size - tt = d → fr ≤ tt → tt ≤ s.size → (∀ j, (h : j < s.data.toList.length) → fr ≤ j → j < tt → s.data.toList[j] ≠ 120) → Ev (fun k => salvorref1_Get.l1 k s (cast ns) (fr : Int) (tt : Int)) (val (restOf ns (partsL (pieces 120 (s.data.toList.drop fr))))) := by
      have fin : ∀ tt : Nat, fr ≤ tt → tt ≤ s.size → (∀ j, (h : j < s.data.toList.length) → fr ≤ j → j < tt → s.data.toList[j] ≠ 120) → (∀ h : tt < s.data.toList.length, s.data.toList[tt] = 120) → Ev (fun k => salvorref1_Get.j2 k s (cast ns) (fr : Int) (tt : Int)) (val (restOf ns (partsL (pieces 120 (s.data.toList.drop fr))))) := by
        intro tt ht1 ht2 hx hxe
        obtain ⟨k1, k2⟩ := while_of (fun b : UInt8 => decide (b ≠ 120)) (s.data.toList.drop fr) (tt - fr) (fun j h hj => by
            rw [List.getElem_drop]; exact decide_eq_true (hx _ _ (by omega) (by omega))) (fun h => by
            rw [List.getElem_drop]
            have := hxe (by rw [List.length_drop] at h; omega)
            simp only [show fr + (tt - fr) = tt by omega, this]; rfl) (by rw [List.length_drop]; omega)
        rw [List.drop_drop, show fr + (tt - fr) = tt by omega] at k2
        have hpc := pieces_cons 120 (s.data.toList.drop fr)
        rw [k1, k2] at hpc
        refine Ev.step (f := fun k => salvorref1_Get.l2 k s (cast ns) (fr : Int) (tt : Int) (fr : Int)) (fun k => ?_) ?_
        · rw [salvorref1_Get.j2]
        refine rg_dig s hs ns hns (by omega) fr tt ht1 ht2 _ ?_ ?_ (tt - fr) fr rfl (Nat.le_refl _) ht1 (fun j h a b => by omega)
        · intro e
          rw [hpc, partsL, e]; rfl
        · intro p e
          have hpm := partL_le e
          by_cases c : tt < s.size
          · have hdr : s.data.toList.drop tt = s.data.toList[tt]'(by rw [hlen]; exact c) :: s.data.toList.drop (tt + 1) := List.drop_eq_getElem_cons (by rw [hlen]; exact c)
            have := ih (tt + 1) (by omega) (by omega) (ns ++ [p]) (by
              intro x hx
              rcases List.mem_append.1 hx with hx | hx
              · exact hns x hx
              · obtain rfl := List.mem_singleton.1 hx; exact hpm) (by simp; omega)
            rw [hpc, hdr, partsL, e]
            simp only
            cases hq : partsL (pieces 120 (s.data.toList.drop (tt + 1))) with
            | none => rw [hq] at this; exact this
            | some ms =>
              rw [hq] at this
              simp only [restOf, Option.map_some, List.append_assoc, List.singleton_append] at this ⊢
              exact this
          · have hte : tt = s.size := by omega
            have hdr : s.data.toList.drop tt = [] := List.drop_eq_nil_of_le (by omega)
            rw [hpc, hdr, partsL, e]
            simp only [partsL, restOf, Option.map_some]
            have hm := rmul_ev (ns ++ [p]) (by
              intro x hx
              rcases List.mem_append.1 hx with hx | hx
              · exact hns x hx
              · obtain rfl := List.mem_singleton.1 hx; exact hpm) (by simp; omega)
            refine Ev.step (f := fun k => (salvorref1_Mul.f k (cast (ns ++ [p]))).bind fun bt214 => some (bt214.1, bt214.2)) (fun k => ?_) (Ev.bind hm (Ev.now _))
            rw [salvorref1_Get.l0, if_neg (by omega)]
      intro d
      induction d with
      | zero =>
        intro tt hd ht1 ht2 hx
        refine Ev.step (f := fun k => salvorref1_Get.j2 k s (cast ns) (fr : Int) (tt : Int)) (fun k => ?_) (fin tt ht1 ht2 hx (fun h => by omega))
        rw [salvorref1_Get.l1, if_neg (by omega)]
      | succ d ih2 =>
        intro tt hd ht1 ht2 hx
        have hlt : tt < s.size := by omega
        have hb := bt_data s tt hlt
        by_cases c : s.data.toList[tt]'(by rw [hlen]; exact hlt) = 120
        · refine Ev.step (f := fun k => salvorref1_Get.j2 k s (cast ns) (fr : Int) (tt : Int)) (fun k => ?_) (fin tt ht1 ht2 hx (fun h => c))
          rw [salvorref1_Get.l1, if_pos (by omega), if_pos (by omega), hb, c, if_pos (by decide)]
        · have := ih2 (tt + 1) (by omega) (by omega) (by omega) (fun j hj hfj hji => by
            by_cases e : j = tt
            · subst e; exact c
            · exact hx j hj hfj (by omega))
          have c2 : ¬ ((s.data.toList[tt]'(by rw [hlen]; exact hlt)).toNat : Int) = 120 := by intro e; exact c (UInt8.toNat_inj.1 (by have : ((120 : UInt8).toNat : Int) = 120 := rfl; omega))
          refine Ev.step (f := fun k => salvorref1_Get.l1 k s (cast ns) (fr : Int) ((tt + 1 : Nat) : Int)) (fun k => ?_) this
          rw [salvorref1_Get.l1, if_pos (by omega), if_pos (by omega), hb, if_neg c2, wrap_succ tt (by omega)]
    refine Ev.step (f := fun k => salvorref1_Get.l1 k s (cast ns) (fr : Int) (fr : Int)) (fun k => ?_) (scan (s.size - fr) fr rfl (Nat.le_refl _) h2 (fun j h a b => by omega))
    rw [salvorref1_Get.l0, if_pos (by omega)]
theorem refGet_ev (s : ByteArray) (hs : s.size ≤ 100000) : Ev (fun k => salvorref1_Get.f k s) (val (getL s.data.toList)) := by
  have := rg_loop s hs (s.size + 1) 0 (by omega) (by omega) [] (by simp) (by simp)
  unfold salvorref1_Get.f
  rw [List.drop_zero] at this
  have e : restOf [] (partsL (pieces 120 s.data.toList)) = getL s.data.toList := by
    unfold getL restOf
    cases partsL (pieces 120 s.data.toList) <;> rfl
  rw [e] at this
  exact this
end Go.Proofs.YtalcenfcknmchaaDoor.Pure
