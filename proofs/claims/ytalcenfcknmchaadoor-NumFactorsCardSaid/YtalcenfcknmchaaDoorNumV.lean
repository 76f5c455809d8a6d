/- Plain laws: what the program's own functions of numbers answer: off.Mul, num.part, num.Get. No program in sight. No conditions beyond those that the lemmas name. -/
import Derived.Test.YtalcenfcknmchaaDoorPx0
import Derived.Test.YtalcenfcknmchaaDoorPx1
import Derived.Test.YtalcenfcknmchaaDoorPx2
import Derived.Test.YtalcenfcknmchaaDoorPx3
import Derived.Test.YtalcenfcknmchaaDoorPx4
import Derived.Test.YtalcenfcknmchaaDoorPx5
import Derived.Test.YtalcenfcknmchaaDoorPx6
import Derived.Test.YtalcenfcknmchaaDoorPx7
import Derived.Test.YtalcenfcknmchaaDoorPx8
import Derived.Test.YtalcenfcknmchaaDoorPx11
import Derived.Test.YtalcenfcknmchaaDoorPx12
import Derived.Test.YtalcenfcknmchaaDoorPx15
import Derived.Test.YtalcenfcknmchaaDoorNumU
import Derived.Lib.SplitLaws
import Derived.Lib.SmallJoins
namespace Go.Proofs.YtalcenfcknmchaaDoor.Pure
open Go.RowKit Go.Proofs.YtalcenfcknmchaaDoorW.PrintWords Go.Proofs.YtalcenfcknmchaaDoorW.PrintLast Go.Proofs.YtalcenfcknmchaaDoor.P Go.Proofs.YtalcenfcknmchaaDoor.Num
set_option linter.unusedVariables false
set_option linter.unusedSimpArgs false
def cast (l : List Nat) : List Int := l.map (fun (n : Nat) => ((n : Nat) : Int))
theorem cast_len (l : List Nat) : (cast l).length = l.length := List.length_map ..
theorem rd_cast (l : List Nat) (i : Nat) (h : i < l.length) : rd (cast l) (i : Int) = (l[i] : Int) := by
  unfold rd cast
  simp [h]
theorem wrap_nat (n : Nat) (h : n ≤ 4611686018427387904) : wrap64 (n : Int) = (n : Int) := by unfold wrap64; omega
theorem wrap_succ (n : Nat) (h : n < 4611686018427387904) : wrap64 ((n : Int) + 1) = ((n + 1 : Nat) : Int) := by unfold wrap64; omega
theorem may_ok (n : Nat) (h : n ≤ MX) : off_May.f (n : Int) = some true := by
  unfold off_May.f
  rw [if_pos (by omega)]
  exact congrArg some (decide_eq_true (by unfold MX at h; omega))
theorem all_ev (l : List Nat) (hm : ∀ x ∈ l, x ≤ MX) (hl : l.length < 4611686018427387904) : ∀ d i : Nat, l.length - i = d → i ≤ l.length → Ev (fun k => off_all.l0 k (cast l) (l.length : Int) (i : Int)) true := by
  intro d
  induction d with
  | zero =>
    intro i hd hi
    exact Ev.step (f := fun _ => some true) (fun k => by rw [off_all.l0, if_neg (by omega)]) (Ev.now _)
  | succ d ih =>
    intro i hd hi
    have hlt : i < l.length := by omega
    have := ih (i + 1) (by omega) (by omega)
    refine Ev.step (f := fun k => off_all.l0 k (cast l) (l.length : Int) ((i + 1 : Nat) : Int)) (fun k => ?_) this
    rw [off_all.l0, if_pos (by omega), if_pos (by omega), if_pos (by rw [cast_len]; omega), rd_cast l i hlt, may_ok _ (hm _ (List.getElem_mem hlt)), Option.bind_some, if_pos rfl, wrap_succ i (by omega)]
theorem mul1_ev (l : List Nat) (hm : ∀ x ∈ l, x ≤ MX) (hp : ∀ x ∈ l, 1 ≤ x) (hl : l.length < 4611686018427387904) : ∀ d i p : Nat, l.length - i = d → i ≤ l.length → 1 ≤ p → p ≤ MX →
    Ev (fun k => off_Mul.l1 k (p : Int) (cast l) (l.length : Int) (i : Int)) (val (mulG p (l.drop i))) := by
  intro d
  induction d with
  | zero =>
    intro i p hd hi h1 h2
    rw [List.drop_eq_nil_of_le (by omega)]
    exact Ev.step (f := fun _ => some ((p : Int), true)) (fun k => by rw [off_Mul.l1, if_neg (by omega)]) (Ev.now _)
  | succ d ih =>
    intro i p hd hi h1 h2
    have hlt : i < l.length := by omega
    have hx := hm _ (List.getElem_mem hlt)
    have hx1 := hp _ (List.getElem_mem hlt)
    have hq : wrap64 ((4611686018427387904 : Int) / (p : Int)) = ((MX / p : Nat) : Int) := by
      have : ((4611686018427387904 : Int) / (p : Int)) = ((MX / p : Nat) : Int) := rfl
      rw [this]
      exact wrap_nat _ (by have := Nat.div_le_self MX p; unfold MX at *; omega)
    rw [List.drop_eq_getElem_cons hlt, mulG]
    by_cases c : MX / p < l[i]
    · rw [if_pos c]
      refine Ev.step (f := fun _ => some (0, false)) (fun k => ?_) (Ev.now _)
      rw [off_Mul.l1, if_pos (by omega), if_pos (by omega), if_pos (by rw [cast_len]; omega), if_neg (by omega), rd_cast l i hlt, hq, if_pos (by omega)]
    · rw [if_neg c]
      have c2 : p * l[i] ≤ MX := by
        have := (Nat.le_div_iff_mul_le h1).1 (Nat.le_of_not_lt c); rw [Nat.mul_comm]; exact this
      have := ih (i + 1) (p * l[i]) (by omega) (by omega) (Nat.mul_pos h1 hx1) c2
      refine Ev.step (f := fun k => off_Mul.l1 k ((p * l[i] : Nat) : Int) (cast l) (l.length : Int) ((i + 1 : Nat) : Int)) (fun k => ?_) this
      have hw : wrap64 ((p : Int) * (l[i] : Int)) = ((p * l[i] : Nat) : Int) := by
        rw [← Int.natCast_mul]; exact wrap_nat _ c2
      rw [off_Mul.l1, if_pos (by omega), if_pos (by omega), if_pos (by rw [cast_len]; omega), if_neg (by omega), rd_cast l i hlt, hq, if_neg (by omega), hw, wrap_succ i (by omega)]
theorem mul0_ev (l : List Nat) (hm : ∀ x ∈ l, x ≤ MX) (hl : l.length < 4611686018427387904) : ∀ d i : Nat, l.length - i = d → i ≤ l.length → (∀ j, (h : j < l.length) → j < i → l[j] ≠ 0) →
    Ev (fun k => off_Mul.l0 k (cast l) (cast l) (l.length : Int) (i : Int)) (val (mulL l)) := by
  intro d
  induction d with
  | zero =>
    intro i hd hi h0
    have hnz : ¬ 0 ∈ l := by
      intro h
      obtain ⟨j, hj, e⟩ := List.getElem_of_mem h
      exact h0 j hj (by omega) e
    have := mul1_ev l hm (fun x hx => Nat.pos_of_ne_zero (fun e => hnz (e ▸ hx))) hl l.length 0 1 (by omega) (by omega) (Nat.le_refl _) (by decide)
    have e : mulL l = mulG 1 (l.drop 0) := by unfold mulL; rw [if_neg hnz]; rfl
    rw [e]
    refine Ev.step (f := fun k => off_Mul.l1 k ((1 : Nat) : Int) (cast l) (l.length : Int) ((0 : Nat) : Int)) (fun k => ?_) this
    rw [off_Mul.l0, if_neg (by omega), cast_len]; rfl
  | succ d ih =>
    intro i hd hi h0
    have hlt : i < l.length := by omega
    by_cases c : l[i] = 0
    · have e : mulL l = some 0 := by unfold mulL; rw [if_pos (by rw [← c]; exact List.getElem_mem hlt)]
      rw [e]
      refine Ev.step (f := fun _ => some (0, true)) (fun k => ?_) (Ev.now _)
      rw [off_Mul.l0, if_pos (by omega), if_pos (by omega), if_pos (by rw [cast_len]; omega), rd_cast l i hlt, if_pos (by omega)]
    · have := ih (i + 1) (by omega) (by omega) (fun j hj hji => by
        by_cases e : j = i
        · subst e; exact c
        · exact h0 j hj (by omega))
      refine Ev.step (f := fun k => off_Mul.l0 k (cast l) (cast l) (l.length : Int) ((i + 1 : Nat) : Int)) (fun k => ?_) this
      rw [off_Mul.l0, if_pos (by omega), if_pos (by omega), if_pos (by rw [cast_len]; omega), rd_cast l i hlt, if_neg (by omega), wrap_succ i (by omega)]
/-- off.Mul of numbers that are places. -/
theorem mul_ev (l : List Nat) (hm : ∀ x ∈ l, x ≤ MX) (hl : l.length < 4611686018427387904) : Ev (fun k => off_Mul.f k (cast l)) (val (mulL l)) := by
  unfold off_Mul.f
  have ha := all_ev l hm hl l.length 0 (by omega) (by omega)
  have h0 := mul0_ev l hm hl l.length 0 (by omega) (by omega) (fun j hj h => absurd h (Nat.not_lt_zero _))
  refine Ev.bind (a := true) ?_ ?_
  · unfold off_all.f; rw [cast_len]; exact ha
  · simp only [if_true, cast_len]; exact h0
theorem data_len (s : ByteArray) : s.data.toList.length = s.size := Array.length_toList
theorem bt_data (s : ByteArray) (j : Nat) (hj : j < s.size) : bt s j = ((s.data.toList[j]'(by rw [Array.length_toList]; exact hj)).toNat : Int) := by
  have := bt_at s (j : Int) (by simpa using hj)
  rw [← this]
  simp
  rfl
theorem ext_take (s : ByteArray) (n : Nat) : (s.extract 0 n).data.toList = s.data.toList.take n := by
  rw [Lib.extract_data]; simp
theorem ext_drop (s : ByteArray) (n : Nat) : (s.extract n s.size).data.toList = s.data.toList.drop n := Lib.extract_to_end s n
theorem digits_f (s : ByteArray) (B most : Nat) (hB : B = 10 ∨ B = 16) (hs : s.size ≤ 100000) : num_digits.f s (B : Int) (most : Int) = some (val (dgN B most s.data.toList)) := by
  unfold num_digits.f dgN
  rw [data_len]
  by_cases h : most < s.size
  · rw [if_pos (by omega), if_pos h]; rfl
  · rw [if_neg (by omega), if_neg h, if_pos ⟨by omega, hs⟩]
    rfl
theorem val_pair (x : Option Nat) : (some (val x)).bind (fun bt => some (bt.1, bt.2)) = some (val x) := by cases x <;> rfl
theorem tv_val (x : Option Nat) : tv x = val x := by cases x <;> rfl
/-- One part. -/
theorem part_end (s : ByteArray) (hs : s.size ≤ 100000) (n : Nat) (hn : n ≤ s.size) (h1 : s.data.toList.take n = s.data.toList.takeWhile isD) (h2 : s.data.toList.drop n = s.data.toList.dropWhile isD) :
    Ev (fun k => num_part.j1 k s (n : Int)) (val (partL s.data.toList)) := by
  have hd : num_digits.f (s.extract 0 ((n : Nat) : Int).toNat) 10 19 = some (val (dgN 10 19 (s.data.toList.takeWhile isD))) := by
    have := digits_f (s.extract 0 n) 10 19 (.inl rfl) (by
      rw [← data_len, ext_take, List.length_take]; rw [data_len]; omega)
    rw [ext_take, h1] at this
    exact this
  have ht : num_times.f (s.extract ((n : Nat) : Int).toNat s.size) = some (val (tm (s.data.toList.dropWhile isD))) := by
    unfold num_times.f
    rw [Int.toNat_natCast, ext_drop, h2, tv_val]
  have hstep : ∀ k, num_part.j1 (k + 1) s (n : Int) = (some (val (dgN 10 19 (s.data.toList.takeWhile isD)))).bind fun bt106 => ((some (val (tm (s.data.toList.dropWhile isD)))).bind fun bt108 => (if bt106.2 = true then (if bt108.2 = true then ((off_Mul.f k (([bt106.1, bt108.1] : List Int))).bind fun bt113 => (some (bt113.1, bt113.2))) else (some (0, false))) else (some (0, false)))) := by
    intro k
    rw [num_part.j1, if_pos (by omega), if_pos (by omega), hd, ht]
  unfold partL
  cases ha : dgN 10 19 (s.data.toList.takeWhile isD) with
  | none =>
    refine Ev.step (f := fun _ => some (0, false)) (fun k => ?_) (Ev.now _)
    rw [hstep, ha]; rfl
  | some a =>
    cases hb : tm (s.data.toList.dropWhile isD) with
    | none =>
      refine Ev.step (f := fun _ => some (0, false)) (fun k => ?_) (Ev.now _)
      rw [hstep, ha, hb]; rfl
    | some b =>
      have hbm : b ≤ MX := Nat.le_trans (tm_le hb).2 (by decide)
      have hm := mul_ev [a, b] (by intro x hx; simp at hx; rcases hx with rfl | rfl; exact dgN_le ha; exact hbm) (by simp)
      refine Ev.step (f := fun k => (off_Mul.f k (cast [a, b])).bind fun bt113 => some (bt113.1, bt113.2)) (fun k => ?_) (Ev.bind hm (Ev.now _))
      rw [hstep, ha, hb]; rfl
theorem part_loop (s : ByteArray) (hs : s.size ≤ 100000) : ∀ d i : Nat, s.size - i = d → i ≤ s.size → (∀ j, (h : j < s.data.toList.length) → j < i → isD s.data.toList[j] = true) → Ev (fun k => num_part.l0 k s (i : Int)) (val (partL s.data.toList)) := by
  have hlen := data_len s
  have key : ∀ i : Nat, i ≤ s.size → (∀ j, (h : j < s.data.toList.length) → j < i → isD s.data.toList[j] = true) → (∀ h : i < s.data.toList.length, isD s.data.toList[i] = false) → s.data.toList.take i = s.data.toList.takeWhile isD ∧ s.data.toList.drop i = s.data.toList.dropWhile isD := by
    intro i hi h1 h2
    have e := List.take_append_drop i s.data.toList
    have ht : ∀ x ∈ s.data.toList.take i, isD x = true := by
      intro x hx
      obtain ⟨j, hj, rfl⟩ := List.getElem_of_mem hx
      rw [List.length_take] at hj
      rw [List.getElem_take]
      exact h1 j (by omega) (by omega)
    have hd : s.data.toList.drop i = (s.data.toList.drop i).dropWhile isD ∧ (s.data.toList.drop i).takeWhile isD = [] := by
      by_cases c : i < s.data.toList.length
      · rw [List.drop_eq_getElem_cons c, List.dropWhile_cons, List.takeWhile_cons, h2 c]
        exact ⟨rfl, rfl⟩
      · rw [List.drop_eq_nil_of_le (by omega)]; exact ⟨rfl, rfl⟩
    constructor
    · conv => rhs; rw [← e, List.takeWhile_append_of_pos ht, hd.2, List.append_nil]
    · conv => rhs; rw [← e, List.dropWhile_append_of_pos ht, ← hd.1]
  intro d
  induction d with
  | zero =>
    intro i hd hi h1
    obtain ⟨k1, k2⟩ := key i hi h1 (fun h => by omega)
    refine Ev.step (f := fun k => num_part.j1 k s (i : Int)) (fun k => ?_) (part_end s hs i hi k1 k2)
    rw [num_part.l0, if_neg (by omega)]
  | succ d ih =>
    intro i hd hi h1
    have hlt : i < s.size := by omega
    have hb := bt_data s i hlt
    by_cases c : isD (s.data.toList[i]'(by rw [hlen]; exact hlt)) = true
    · have c2 := c
      unfold isD at c2
      rw [Bool.and_eq_true, decide_eq_true_iff, decide_eq_true_iff] at c2
      have := ih (i + 1) (by omega) (by omega) (fun j hj hji => by
        by_cases e : j = i
        · subst e; exact c
        · exact h1 j hj (by omega))
      refine Ev.step (f := fun k => num_part.l0 k s ((i + 1 : Nat) : Int)) (fun k => ?_) this
      rw [num_part.l0, if_pos (by omega), if_pos (by omega), hb, if_pos (by omega), if_pos (by omega), wrap_succ i (by omega)]
    · have c1 : isD (s.data.toList[i]'(by rw [hlen]; exact hlt)) = false := by simpa using c
      obtain ⟨k1, k2⟩ := key i hi h1 (fun h => c1)
      refine Ev.step (f := fun k => num_part.j1 k s (i : Int)) (fun k => ?_) (part_end s hs i hi k1 k2)
      unfold isD at c1
      rw [Bool.and_eq_false_iff, decide_eq_false_iff_not, decide_eq_false_iff_not] at c1
      rw [num_part.l0, if_pos (by omega), if_pos (by omega), hb]
      by_cases c3 : ((s.data.toList[i]'(by rw [hlen]; exact hlt)).toNat : Int) ≥ 48
      · rw [if_pos c3, if_neg (by omega)]
      · rw [if_neg c3]
theorem part_ev (s : ByteArray) (hs : s.size ≤ 100000) : Ev (fun k => num_part.f k s) (val (partL s.data.toList)) := part_loop s hs s.size 0 (by omega) (by omega) (fun j h hj => absurd hj (Nat.not_lt_zero _))
/-- Get of pieces. -/
theorem get_loop (ps : List ByteArray) (hs : ∀ p ∈ ps, p.size ≤ 100000) (hl : ps.length < 10000000) : ∀ d i : Nat, ps.length - i = d → i ≤ ps.length → ∀ ns : List Nat, (∀ x ∈ ns, x ≤ MX) → ns.length = i →
    Ev (fun k => num_Get.l0 k (cast ns) ps (ps.length : Int) (i : Int)) (val (match partsL ((ps.drop i).map (·.data.toList)) with
      | some ms => mulL (ns ++ ms)
      | none => none)) := by
  intro d
  induction d with
  | zero =>
    intro i hd hi ns hn hni
    rw [List.drop_eq_nil_of_le (by omega)]
    have hm := mul_ev ns hn (by omega)
    refine Ev.step (f := fun k => (off_Mul.f k (cast ns)).bind fun bt124 => some (bt124.1, bt124.2)) (fun k => ?_) ?_
    · rw [num_Get.l0, if_neg (by omega)]
    · simp only [List.map_nil, partsL, List.append_nil]
      exact Ev.bind hm (Ev.now _)
  | succ d ih =>
    intro i hd hi ns hn hni
    have hlt : i < ps.length := by omega
    have hrd : rdOf ByteArray.empty ps (i : Int) = ps[i] := by unfold rdOf; simp [hlt]
    have hp := part_ev ps[i] (hs _ (List.getElem_mem hlt))
    rw [List.drop_eq_getElem_cons hlt, List.map_cons, partsL]
    refine Ev.step (f := fun k => (num_part.f k ps[i]).bind fun bt119 => (if bt119.2 = true then (if (cast ns).length < 17592186044416 then (num_Get.l0 k (cast ns ++ [bt119.1]) ps (ps.length : Int) ((i + 1 : Nat) : Int)) else (none)) else (some (0, false)))) (fun k => ?_) ?_
    · rw [num_Get.l0, if_pos (by omega), if_pos (by omega), if_pos (by omega), hrd, wrap_succ i (by omega)]
    refine Ev.bind hp ?_
    cases hq : partL (ps[i].data.toList) with
    | none => exact Ev.now _
    | some n =>
      have hc : (cast ns).length < 17592186044416 := by rw [cast_len]; omega
      have hcast : cast ns ++ [(val (some n)).1] = cast (ns ++ [n]) := by unfold cast; rw [List.map_append]; rfl
      simp only [show (val (some n)).2 = true from rfl, if_true, if_pos hc, hcast]
      have := ih (i + 1) (by omega) (by omega) (ns ++ [n]) (by
        intro x hx
        rcases List.mem_append.1 hx with hx | hx
        · exact hn x hx
        · obtain rfl := List.mem_singleton.1 hx; exact partL_le hq) (by simp; omega)
      cases hr : partsL ((ps.drop (i + 1)).map (·.data.toList)) with
      | none => rw [hr] at this; exact this
      | some ms =>
        rw [hr] at this
        simp only [List.append_assoc, List.singleton_append] at this
        exact this
theorem occ_bt (s : ByteArray) (c : UInt8) (j : Nat) (hj : j < s.size) : Lib.occAt s.data.toList [c] j = decide (bt s j = (c.toNat : Int)) := by
  have hl : s.data.toList.length = s.size := Array.length_toList
  unfold Lib.occAt
  rw [List.drop_eq_getElem_cons (by rw [hl]; exact hj)]
  have e : bt s j = ((s.data.toList[j]'(by rw [hl]; exact hj)).toNat : Int) := by
    have := bt_at s (j : Int) (by simpa using hj)
    rw [← this]
    simp
    rfl
  rw [e]
  generalize s.data.toList[j] = a
  simp only [List.isPrefixOf, Bool.and_true]
  by_cases h : c = a
  · subst h; simp
  · have h2 : ¬ (a.toNat : Int) = (c.toNat : Int) := fun e => h (UInt8.toNat_inj.1 (by omega)).symm
    simp [h, h2]
theorem words_ok (c : UInt8) : ∀ (k : Nat) (s : ByteArray), Lib.countB s ⟨#[c]⟩ = k → jn c ((Lib.splitB ⟨#[c]⟩ 0 k s).map (·.data.toList)) = s.data.toList ∧ ∀ p ∈ Lib.splitB ⟨#[c]⟩ 0 k s, ∀ j : Nat, j < p.size → bt p j ≠ (c.toNat : Int)
  | k, s, hk => by
    have hl : s.data.toList.length = s.size := Array.length_toList
    rcases Lib.indexB_cases s ⟨#[c]⟩ with h | ⟨i, h, hi⟩
    · rw [Lib.splitB_miss _ _ _ _ h]
      refine ⟨rfl, fun p hp j hj e => ?_⟩
      obtain rfl := List.mem_singleton.1 hp
      rcases Lib.index_spec p.data.toList [c] with ⟨_, h2⟩ | ⟨i, h1, h2, h3, _⟩
      · have := h2 j (by rw [hl]; omega)
        rw [occ_bt p c j hj, decide_eq_false_iff_not] at this
        exact this e
      · have h' : Lib.index p.data.toList [c] = -1 := h
        omega
    · have hsz : (⟨#[c]⟩ : ByteArray).size = 1 := rfl
      rw [hsz] at hi
      have hc := Lib.countB_hit s ⟨#[c]⟩ i (by rw [hsz]; omega) h
      rw [hsz] at hc
      cases k with
      | zero => omega
      | succ k =>
        rw [Lib.splitB_hit _ _ _ _ _ h, hsz, Nat.add_zero]
        obtain ⟨h1, h2⟩ := words_ok c k (s.extract (i + 1) s.size) (by omega)
        have hix : Lib.index s.data.toList [c] = i := h
        have hno : Lib.NoOcc s.data.toList [c] i ∧ Lib.occAt s.data.toList [c] i = true := by
          rcases Lib.index_spec s.data.toList [c] with ⟨h3, _⟩ | ⟨j, h3, h4, h5, h6⟩
          · omega
          · obtain rfl : i = j := by omega
            exact ⟨h6, h5⟩
        obtain ⟨hno, hoc⟩ := hno
        rw [occ_bt s c i (by omega), decide_eq_true_iff] at hoc
        refine ⟨?_, fun p hp j hj => ?_⟩
        · have hne : Lib.splitB ⟨#[c]⟩ 0 k (s.extract (i + 1) s.size) ≠ [] := by
            intro e
            have := Lib.splitB_all ⟨#[c]⟩ (by rw [hsz]; omega) 0 k (s.extract (i + 1) s.size) (by omega)
            rw [e] at this; simp at this
          obtain ⟨y, r, hyr⟩ := List.exists_cons_of_ne_nil hne
          rw [hyr] at h1 ⊢
          simp only [List.map_cons] at h1 ⊢
          rw [jn, h1, Lib.extract_from_zero, Lib.extract_to_end]
          have hci : s.data.toList[i]'(by rw [hl]; omega) = c := by
            rw [bt_data s i (by omega)] at hoc
            exact UInt8.toNat_inj.1 (Int.ofNat_inj.1 hoc)
          conv => rhs; rw [← List.take_append_drop i s.data.toList]
          rw [List.drop_eq_getElem_cons (i := i) (l := s.data.toList) (by rw [hl]; omega), hci]
        · rcases List.mem_cons.1 hp with rfl | hp
          · have hps : (s.extract 0 i).size = i := by
              have := congrArg List.length (Lib.extract_from_zero s i)
              rw [Array.length_toList, List.length_take, hl] at this
              have h9 : (s.extract 0 i).size = (s.extract 0 i).data.size := rfl
              omega
            rw [hps] at hj
            have e1 : bt (s.extract 0 i) j = bt s j := by
              rw [bt_data _ j (by omega), bt_data s j (by omega)]
              simp only [Lib.extract_from_zero]
              rw [List.getElem_take]
            rw [e1]
            have := hno j hj
            rw [occ_bt s c j (by omega), decide_eq_false_iff_not] at this
            exact this
          · exact h2 p hp j hj
/-- Split at one byte. -/
theorem split_pieces (c : UInt8) (s : ByteArray) : (Lib.splitB ⟨#[c]⟩ 0 (Lib.countB s ⟨#[c]⟩) s).map (·.data.toList) = pieces c s.data.toList := by
  obtain ⟨h1, h2⟩ := words_ok c _ s rfl
  have hne : Lib.splitB ⟨#[c]⟩ 0 (Lib.countB s ⟨#[c]⟩) s ≠ [] := by
    intro e
    have := Lib.splitB_all ⟨#[c]⟩ (by show 1 ≤ 1; omega) 0 (Lib.countB s ⟨#[c]⟩) s rfl
    rw [e] at this; simp at this
  rw [← h1, pieces_jn c _ (by simpa using hne)]
  intro p hp b hb
  obtain ⟨q, hq, rfl⟩ := List.mem_map.1 hp
  obtain ⟨j, hj, rfl⟩ := List.getElem_of_mem hb
  have hj2 : j < q.size := by rw [← data_len]; exact hj
  have := h2 q hq j hj2
  rw [bt_data q j hj2] at this
  intro e
  rw [e] at this
  exact this rfl
theorem pieces_size (c : UInt8) (l : List UInt8) : (∀ p ∈ pieces c l, p.length ≤ l.length) ∧ (pieces c l).length ≤ l.length + 1 := by
  induction l with
  | nil => simp [pieces]
  | cons x r ih =>
    obtain ⟨h1, h2⟩ := ih
    rw [pieces]
    split
    · refine ⟨fun p hp => ?_, by simp; omega⟩
      rcases List.mem_cons.1 hp with rfl | hp
      · simp
      · have := h1 p hp; simp; omega
    · split
      · next p ps e =>
        rw [e] at h1 h2
        refine ⟨fun q hq => ?_, by simp at h2 ⊢; omega⟩
        rcases List.mem_cons.1 hq with rfl | hq
        · have := h1 p List.mem_cons_self; simp; omega
        · have := h1 q (List.mem_cons_of_mem _ hq); simp; omega
      · refine ⟨fun q hq => ?_, by simp⟩
        obtain rfl := List.mem_singleton.1 hq
        simp
/-- num.Get. -/
theorem get_ev (s : ByteArray) (hs : s.size ≤ 100000) : Ev (fun k => num_Get.f k s) (val (getL s.data.toList)) := by
  have hsp : strings_Split.f s (⟨#[120]⟩ : ByteArray) = some (Lib.splitB ⟨#[120]⟩ 0 (Lib.countB s ⟨#[120]⟩) s) := by
    unfold strings_Split.f
    rw [if_pos ⟨by omega, by show 1 ≤ 1; omega⟩]
  obtain ⟨h1, h2⟩ := pieces_size 120 s.data.toList
  have hps := split_pieces 120 s
  generalize hP : Lib.splitB ⟨#[120]⟩ 0 (Lib.countB s ⟨#[120]⟩) s = ps at hsp hps
  have hpl : ps.length ≤ s.size + 1 := by
    have := congrArg List.length hps
    rw [List.length_map] at this
    rw [this, ← data_len]; exact h2
  have hpp : ∀ p ∈ ps, p.size ≤ 100000 := by
    intro p hp
    have : p.data.toList ∈ pieces 120 s.data.toList := by rw [← hps]; exact List.mem_map.2 ⟨p, hp, rfl⟩
    have := h1 _ this
    rw [data_len, data_len] at this
    omega
  have := get_loop ps hpp (by omega) ps.length 0 (by omega) (by omega) [] (by simp) rfl
  unfold num_Get.f getL
  rw [hsp]
  rw [List.drop_zero, hps] at this
  simp only [List.nil_append] at this
  exact this
theorem getDec_f (s : ByteArray) (hs : s.size ≤ 100000) : num_GetDec.f s = some (val (if 1 < s.size ∧ s.data.toList.head? = some 48 then none else dgN 10 19 s.data.toList)) := by
  have hd := digits_f s 10 19 (.inl rfl) hs
  replace hd : num_digits.f s 10 19 = some (val (dgN 10 19 s.data.toList)) := hd
  unfold num_GetDec.f
  by_cases h : 1 < s.size
  · have hb := bt_data s 0 (by omega)
    have hh : s.data.toList.head? = some (s.data.toList[0]'(by rw [data_len]; omega)) := by
      rw [List.head?_eq_getElem?, List.getElem?_eq_getElem]
    rw [if_pos (by omega), if_pos (by omega), show bt s 0 = _ from hb, hd]
    by_cases c : (s.data.toList[0]'(by rw [data_len]; omega)) = 48
    · rw [c, if_pos (by decide), if_pos ⟨h, by rw [hh, c]⟩]; rfl
    · rw [if_neg (by intro e; exact c (UInt8.toNat_inj.1 (by have : ((48 : UInt8).toNat : Int) = 48 := rfl; omega))), if_neg (by rintro ⟨_, e⟩; rw [hh] at e; exact c (Option.some.inj e))]
      exact val_pair _
  · rw [if_neg (by omega), if_neg (by omega), hd]
    exact val_pair _
theorem pre_0x (l : List UInt8) : Lib.hasPrefix l [48, 120] = true ↔ l.take 2 = [48, 120] := by
  unfold Lib.hasPrefix
  rcases l with _ | ⟨x, _ | ⟨y, r⟩⟩
  · simp [List.isPrefixOf]
  · simp [List.isPrefixOf]
  · constructor
    · intro h
      simp [List.isPrefixOf] at h
      obtain ⟨rfl, rfl⟩ := h
      rfl
    · intro h
      simp at h
      obtain ⟨rfl, rfl⟩ := h
      rfl
theorem getHex_f (s : ByteArray) (hs : s.size ≤ 100000) : num_GetHex.f s = some (val (if s.data.toList.take 2 = [48, 120] then dgN 16 16 (s.data.toList.drop 2) else none)) := by
  unfold num_GetHex.f strings_CutPrefix.f
  rw [Option.bind_some, show (⟨#[48, 120]⟩ : ByteArray).data.toList = [48, 120] from rfl]
  by_cases h : s.data.toList.take 2 = [48, 120]
  · have h2 := (pre_0x s.data.toList).2 h
    have ht : Lib.trimPrefix s.data.toList [48, 120] = s.data.toList.drop 2 := by
      unfold Lib.trimPrefix
      rw [if_pos h2]; rfl
    have hd := digits_f ⟨(s.data.toList.drop 2).toArray⟩ 16 16 (.inr rfl) (by
      show (List.toArray _).size ≤ _; rw [List.size_toArray, List.length_drop, data_len]; omega)
    have e2 : (⟨(s.data.toList.drop 2).toArray⟩ : ByteArray).data.toList = s.data.toList.drop 2 := by simp
    rw [e2] at hd
    rw [ht, h2, if_pos h]
    show ((num_digits.f ⟨(s.data.toList.drop 2).toArray⟩ 16 16).bind fun bt128 => some (bt128.1, bt128.2)) = _
    rw [show num_digits.f ⟨(s.data.toList.drop 2).toArray⟩ 16 16 = _ from hd]
    exact val_pair _
  · have h2 : Lib.hasPrefix s.data.toList [48, 120] = false := by
      cases c : Lib.hasPrefix s.data.toList [48, 120] with
      | false => rfl
      | true => exact absurd ((pre_0x _).1 c) h
    rw [h2, if_neg h]; rfl
theorem itoa_f (n : Int) (h0 : -9223372036854775808 ≤ n) (h1 : n ≤ 9223372036854775807) : num_Dec.f n = some ⟨(Lib.itoa n).toArray⟩ := by
  unfold num_Dec.f strconv_Itoa_29.f
  rw [if_pos ⟨h0, h1⟩]; rfl
theorem hex_f (n : Int) (h1 : n ≤ 9223372036854775807) : num_Hex.f n = some (if n < 0 then ⟨#[]⟩ else ⟨(hexT n.toNat).toArray⟩) := by
  unfold num_Hex.f
  by_cases h : n < 0
  · rw [if_pos h, if_pos h]
  · rw [if_neg h, if_neg h, if_pos h1]
end Go.Proofs.YtalcenfcknmchaaDoor.Pure
