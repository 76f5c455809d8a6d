/- Plain laws: a spec of flags, as the reference reads it. No program in sight. No conditions. -/
import Derived.Test.YtlginoicaeonhaaDoorPx0
import Derived.Test.YtlginoicaeonhaaDoorPx18
import Derived.Test.YtlginoicaeonhaaDoorPx19
import Derived.Test.YtlginoicaeonhaaDoorArgB
import Derived.Test.YtlginoicaeonhaaDoorFlE
namespace Go.Proofs.YtlginoicaeonhaaDoor.Pure
open Go.RowKit Go.Proofs.YtlginoicaeonhaaDoorW.PrintWords Go.Proofs.YtlginoicaeonhaaDoorW.PrintLast Go.Proofs.YtlginoicaeonhaaDoor.P
set_option linter.unusedVariables false
set_option linter.unusedSimpArgs false
theorem wn (n : Nat) (h : n < 4611686018427387904) : wrap64 ((n : Int) + 1) = ((n + 1 : Nat) : Int) := by unfold wrap64; omega
/-- The letters' places ahead of an index. -/
def LP (a : ByteArray) (i : Nat) : List Nat := (List.range i).filter fun (j : Nat) => decide (bt a j ≠ 58)
def fg (a : ByteArray) (i j : Nat) : S72 := ⟨bt a j, decide (j + 1 < i) && decide (bt a ((j + 1 : Nat) : Int) = 58)⟩
/-- The flags of the bytes ahead of an index. -/
def FF (a : ByteArray) (i : Nat) : List S72 := (LP a i).map (fg a i)
theorem LP_mem {a : ByteArray} {i j : Nat} : j ∈ LP a i ↔ j < i ∧ bt a j ≠ 58 := by
  unfold LP
  rw [List.mem_filter, List.mem_range, decide_eq_true_iff]
theorem LP_succ (a : ByteArray) (i : Nat) : LP a (i + 1) = if bt a i = 58 then LP a i else LP a i ++ [i] := by
  unfold LP
  rw [List.range_succ, List.filter_append]
  by_cases h : bt a i = 58
  · rw [if_pos h]; simp [h]
  · rw [if_neg h]; simp [h]
theorem FF_letter (a : ByteArray) (i : Nat) (h : bt a i ≠ 58) : FF a (i + 1) = FF a i ++ [⟨bt a i, false⟩] := by
  unfold FF
  rw [LP_succ, if_neg h, List.map_append]
  congr 1
  · refine List.map_congr_left fun j hj => ?_
    have hj2 := (LP_mem.1 hj).1
    unfold fg
    congr 1
    by_cases e : j + 1 = i
    · subst e
      rw [decide_eq_false (show ¬ j + 1 < j + 1 by omega), decide_eq_false h]
      simp
    · rw [show decide (j + 1 < i + 1) = decide (j + 1 < i) from by rw [decide_eq_decide]; omega]
  · simp [fg]
theorem FF_last (a : ByteArray) (i : Nat) (h : bt a i ≠ 58) : FF a (i + 1) = FF a i ++ [⟨bt a i, false⟩] ∧ FF a (i + 1) ≠ [] := by
  have e := FF_letter a i h
  exact ⟨e, by rw [e]; simp⟩
theorem FF_colon (a : ByteArray) (i : Nat) (h0 : bt a i ≠ 58) (h : bt a ((i + 1 : Nat) : Int) = 58) : FF a (i + 2) = FF a i ++ [⟨bt a i, true⟩] := by
  unfold FF
  rw [show i + 2 = (i + 1) + 1 from rfl, LP_succ, if_pos h, LP_succ, if_neg h0, List.map_append]
  congr 1
  · refine List.map_congr_left fun j hj => ?_
    have hj2 := (LP_mem.1 hj).1
    unfold fg
    congr 1
    by_cases e : j + 1 = i
    · subst e
      rw [decide_eq_false h0]; simp
    · rw [show decide (j + 1 < i + 1 + 1) = decide (j + 1 < i) from by rw [decide_eq_decide]; omega]
  · have h' : bt a ((i : Int) + 1) = 58 := by simpa using h
    simp [fg, h']
theorem idx_FF (a : ByteArray) (i : Nat) (c : Int) : 0 ≤ idxF (FF a i) c ↔ ∃ j : Nat, j < i ∧ bt a j ≠ 58 ∧ bt a j = c := by
  constructor
  · intro h
    unfold idxF at h
    cases e : (FF a i).findIdx? (fun f => f.f0 == c) with
    | none => rw [e] at h; simp at h
    | some k =>
      obtain ⟨hk, h1, _⟩ := List.findIdx?_eq_some_iff_getElem.1 e
      unfold FF at h1 hk
      rw [List.length_map] at hk
      rw [List.getElem_map] at h1
      have hm := LP_mem.1 (List.getElem_mem hk)
      exact ⟨_, hm.1, hm.2, by simpa [fg] using h1⟩
  · rintro ⟨j, h1, h2, h3⟩
    unfold idxF
    cases e : (FF a i).findIdx? (fun f => f.f0 == c) with
    | none =>
      rw [List.findIdx?_eq_none_iff] at e
      have := e (fg a i j) (List.mem_map.2 ⟨j, LP_mem.2 ⟨h1, h2⟩, rfl⟩)
      simp [fg, h3] at this
    | some k => simp
/-- What the bytes so far must be. -/
def VV (a : ByteArray) (i : Nat) : Prop := ∀ j : Nat, j < i → bt a j = 58 → 1 ≤ j ∧ bt a ((j - 1 : Nat) : Int) ≠ 58
theorem rd_last72 (l : List S72) (x : S72) : rd_T72 (l ++ [x]) (((l ++ [x]).length : Int) - 1) = x := by
  have e : (((l ++ [x]).length : Int) - 1) = ((l.length : Nat) : Int) := by simp
  rw [e]
  simp [rd_T72]
theorem last_FF (a : ByteArray) (i : Nat) (hv : VV a (i + 1)) : FF a (i + 1) ≠ [] ∧ ((rd_T72 (FF a (i + 1)) (((FF a (i + 1)).length : Int) - 1)).f1 = true ↔ bt a i = 58) := by
  by_cases h : bt a i = 58
  · obtain ⟨h1, h2⟩ := hv i (by omega) h
    obtain ⟨q, rfl⟩ : ∃ q, i = q + 1 := ⟨i - 1, by omega⟩
    rw [Nat.add_sub_cancel] at h2
    have e := FF_colon a q h2 h
    rw [show q + 1 + 1 = q + 2 from rfl, e, rd_last72]
    exact ⟨by simp, iff_of_true rfl h⟩
  · rw [FF_letter a i h, rd_last72]
    exact ⟨by simp, by simp [h]⟩
theorem set_last (l : List S72) (x y : S72) : (l ++ [x]).set ((l ++ [x]).length - 1) y = l ++ [y] := by
  rw [List.length_append, List.length_singleton, Nat.add_sub_cancel, List.set_append_right _ _ (Nat.le_refl _), Nat.sub_self]; rfl
theorem letter58 : letterB 58 = false := by decide
/-- One byte of a spec, as the program takes it. -/
theorem spec_step (a : ByteArray) (i : Nat) (hi : i < a.size) (hv : VV a i) :
    specL (bytesOf a i) (FF a i) = if (bt a i = 58 ∧ 1 ≤ i ∧ bt a ((i - 1 : Nat) : Int) ≠ 58) ∨ (letterB (bt a i) = true ∧ ¬ ∃ j : Nat, j < i ∧ bt a j = bt a i) then specL (bytesOf a (i + 1)) (FF a (i + 1)) else none := by
  rw [bytesOf_step a i hi, specL]
  have hidx := idx_FF a i (bt a i)
  by_cases hc : bt a i = 58
  · have hl : letterB (bt a i) = false := by rw [hc]; exact letter58
    rw [if_neg (by rw [hl]; simp)]
    by_cases h1 : 1 ≤ i
    · obtain ⟨q, rfl⟩ : ∃ q, i = q + 1 := ⟨i - 1, by omega⟩
      obtain ⟨hne, hlast⟩ := last_FF a q hv
      rw [Nat.add_sub_cancel]
      have hpos : 0 < (FF a (q + 1)).length := List.length_pos_iff.2 hne
      by_cases h2 : bt a q = 58
      · rw [if_neg (by rintro ⟨_, _, h⟩; rw [hlast.2 h2] at h; cases h), if_neg]
        rintro (⟨_, _, h⟩ | ⟨h, _⟩)
        · exact h h2
        · rw [hl] at h; cases h
      · have hf : (rd_T72 (FF a (q + 1)) (((FF a (q + 1)).length : Int) - 1)).f1 = false := by
          cases e : (rd_T72 (FF a (q + 1)) (((FF a (q + 1)).length : Int) - 1)).f1 with
          | false => rfl
          | true => exact absurd (hlast.1 e) h2
        rw [if_pos ⟨hc, hpos, hf⟩, if_pos (.inl ⟨hc, by omega, h2⟩)]
        congr 1
        rw [show q + 1 + 1 = q + 2 from rfl, FF_colon a q h2 hc, FF_letter a q h2, set_last, rd_last72]
    · obtain rfl : i = 0 := by omega
      have e0 : FF a 0 = [] := rfl
      rw [e0, if_neg (by rintro ⟨_, h, _⟩; simp at h), if_neg]
      rintro (⟨_, h, _⟩ | ⟨h, _⟩)
      · omega
      · rw [hl] at h; cases h
  · by_cases h1 : letterB (bt a i) = true ∧ ¬ ∃ j : Nat, j < i ∧ bt a j = bt a i
    · rw [if_pos ⟨h1.1, fun h => by obtain ⟨j, j1, j2, j3⟩ := hidx.1 h; exact h1.2 ⟨j, j1, j3⟩⟩, if_pos (.inr h1), FF_letter a i hc]
    · rw [if_neg (c := letterB (bt a i) = true ∧ ¬ 0 ≤ idxF (FF a i) (bt a i)), if_neg (by rintro ⟨h, _⟩; exact hc h), if_neg]
      · rintro (⟨h, _⟩ | h)
        · exact hc h
        · exact h1 h
      · rintro ⟨h2, h3⟩
        exact h1 ⟨h2, fun ⟨j, j1, j3⟩ => h3 (hidx.2 ⟨j, j1, by rw [j3]; exact hc, j3⟩)⟩
theorem letterB_iff (c : Int) : letterB c = true ↔ (97 ≤ c ∧ c ≤ 122) ∨ (65 ≤ c ∧ c ≤ 90) := by
  unfold letterB
  simp only [Bool.or_eq_true, Bool.and_eq_true, decide_eq_true_eq]
/-- The bytes ahead of one: is it there already? -/
theorem ms_in (a : ByteArray) (i : Nat) (hi : i < a.size) (hs : a.size < 4611686018427387904) (r : Bool) (hno : (∃ j : Nat, j < i ∧ bt a j = bt a i) → r = false) (hyes : (¬ ∃ j : Nat, j < i ∧ bt a j = bt a i) → Ev (fun k => salvorref6_mayspec.l0 k a ((i + 1 : Nat) : Int)) r) :
    ∀ d j : Nat, i - j = d → j ≤ i → (∀ q : Nat, q < j → bt a q ≠ bt a i) → Ev (fun k => salvorref6_mayspec.l1 k a (i : Int) (j : Int)) r := by
  intro d
  induction d with
  | zero =>
    intro j hd hj hq
    refine Ev.step (f := fun k => salvorref6_mayspec.l0 k a ((i + 1 : Nat) : Int)) (fun k => ?_) (hyes (fun ⟨q, q1, q2⟩ => hq q (by omega) q2))
    rw [salvorref6_mayspec.l1, if_neg (by omega), wn i (by omega)]
  | succ d ih =>
    intro j hd hj hq
    by_cases c : bt a j = bt a i
    · rw [hno ⟨j, by omega, c⟩]
      refine Ev.step (f := fun _ => some false) (fun k => ?_) (Ev.now _)
      rw [salvorref6_mayspec.l1, if_pos (by omega), if_pos (by omega), if_pos (by omega), if_pos (by omega), if_pos (by omega), if_pos c]
    · refine Ev.step (f := fun k => salvorref6_mayspec.l1 k a (i : Int) ((j + 1 : Nat) : Int)) (fun k => ?_) (ih (j + 1) (by omega) (by omega) (fun q hq2 => by
        by_cases e : q = j
        · subst e; exact c
        · exact hq q (by omega)))
      rw [salvorref6_mayspec.l1, if_pos (by omega), if_pos (by omega), if_pos (by omega), if_pos (by omega), if_pos (by omega), if_neg c, wn j (by omega)]
theorem ms_at (a : ByteArray) (hs : a.size < 4611686018427387904) : ∀ d i : Nat, a.size - i = d → i ≤ a.size → VV a i → Ev (fun k => salvorref6_mayspec.l0 k a (i : Int)) (specL (bytesOf a i) (FF a i)).isSome ∧ (∀ fl, specL (bytesOf a i) (FF a i) = some fl → fl = FF a a.size ∧ VV a a.size) := by
  intro d
  induction d with
  | zero =>
    intro i hd hi hv
    obtain rfl : i = a.size := by omega
    rw [bytesOf_end a a.size (Nat.le_refl _), specL]
    exact ⟨Ev.step (f := fun _ => some true) (fun k => by rw [salvorref6_mayspec.l0, if_neg (by omega)]) (Ev.now _), fun fl h => ⟨(Option.some.inj h).symm, hv⟩⟩
  | succ d ih =>
    intro i hd hi hv
    have hlt : i < a.size := by omega
    rw [spec_step a i hlt hv]
    by_cases hc : bt a i = 58
    · have hl : letterB (bt a i) = false := by rw [hc]; exact letter58
      by_cases h1 : 1 ≤ i ∧ bt a ((i - 1 : Nat) : Int) ≠ 58
      · have hv2 : VV a (i + 1) := by
          intro j hj hj2
          by_cases e : j = i
          · subst e; exact h1
          · exact hv j (by omega) hj2
        obtain ⟨i1, i2⟩ := ih (i + 1) (by omega) (by omega) hv2
        rw [if_pos (.inl ⟨hc, h1⟩)]
        refine ⟨?_, i2⟩
        have w1 : wrap64 ((i : Int) - 1) = ((i - 1 : Nat) : Int) := by unfold wrap64; omega
        refine Ev.step (f := fun k => salvorref6_mayspec.l0 k a ((i + 1 : Nat) : Int)) (fun k => ?_) i1
        rw [salvorref6_mayspec.l0, if_pos (by omega), if_pos (by omega), if_pos hc, if_neg (by omega), w1, if_pos (by omega), if_pos (by omega), if_neg h1.2, wn i (by omega)]
      · rw [if_neg (by
          rintro (⟨_, h⟩ | ⟨h, _⟩)
          · exact h1 h
          · rw [hl] at h; cases h)]
        refine ⟨?_, fun fl h => by cases h⟩
        refine Ev.step (f := fun _ => some false) (fun k => ?_) (Ev.now _)
        rw [salvorref6_mayspec.l0, if_pos (by omega), if_pos (by omega), if_pos hc]
        by_cases h2 : i = 0
        · rw [if_pos (by omega)]
        · have w1 : wrap64 ((i : Int) - 1) = ((i - 1 : Nat) : Int) := by unfold wrap64; omega
          rw [if_neg (by omega), w1, if_pos (by omega), if_pos (by omega), if_pos (by
            by_cases e : bt a ((i - 1 : Nat) : Int) = 58
            · exact e
            · exact absurd ⟨by omega, e⟩ h1)]
    · have hv2 : VV a (i + 1) := by
        intro j hj hj2
        by_cases e : j = i
        · subst e; exact absurd hj2 hc
        · exact hv j (by omega) hj2
      obtain ⟨i1, i2⟩ := ih (i + 1) (by omega) (by omega) hv2
      by_cases hl : letterB (bt a i) = true
      · have hll := (letterB_iff _).1 hl
        have hj1 : ∀ r : Bool, Ev (fun k => salvorref6_mayspec.j1 k a (i : Int) false) r → Ev (fun k => salvorref6_mayspec.l0 k a (i : Int)) r := by
          intro r hr
          refine Ev.step (f := fun k => salvorref6_mayspec.j1 k a (i : Int) false) (fun k => ?_) hr
          rw [salvorref6_mayspec.l0, if_pos (by omega), if_pos (by omega), if_neg hc]
          by_cases c1 : bt a i < 97
          · rw [if_pos c1, if_neg (by omega), decide_eq_false (by omega)]
          · rw [if_neg c1, if_neg (by omega)]
        have hl1 : ∀ r : Bool, Ev (fun k => salvorref6_mayspec.l1 k a (i : Int) ((0 : Nat) : Int)) r → Ev (fun k => salvorref6_mayspec.l0 k a (i : Int)) r := by
          intro r hr
          refine hj1 r (Ev.step (f := fun k => salvorref6_mayspec.l1 k a (i : Int) ((0 : Nat) : Int)) (fun k => ?_) hr)
          rw [salvorref6_mayspec.j1, if_neg (by simp)]; rfl
        by_cases hd2 : ∃ j : Nat, j < i ∧ bt a j = bt a i
        · rw [if_neg (by
            rintro (⟨h, _⟩ | ⟨_, h⟩)
            · exact hc h
            · exact h hd2)]
          exact ⟨hl1 _ (ms_in a i hlt hs false (fun _ => rfl) (fun h => absurd hd2 h) i 0 (by omega) (by omega) (fun q hq => absurd hq (Nat.not_lt_zero _))), fun fl h => by cases h⟩
        · rw [if_pos (.inr ⟨hl, hd2⟩)]
          exact ⟨hl1 _ (ms_in a i hlt hs _ (fun h => absurd h hd2) (fun _ => i1) i 0 (by omega) (by omega) (fun q hq => absurd hq (Nat.not_lt_zero _))), i2⟩
      · rw [if_neg (by
          rintro (⟨h, _⟩ | ⟨h, _⟩)
          · exact hc h
          · exact hl h)]
        refine ⟨?_, fun fl h => by cases h⟩
        have hll : ¬ ((97 ≤ bt a i ∧ bt a i ≤ 122) ∨ (65 ≤ bt a i ∧ bt a i ≤ 90)) := fun h => hl ((letterB_iff _).2 h)
        refine Ev.step (f := fun k => salvorref6_mayspec.j1 k a (i : Int) true) (fun k => ?_) (Ev.step (f := fun _ => some false) (fun k => by rw [salvorref6_mayspec.j1, if_pos rfl]) (Ev.now _))
        rw [salvorref6_mayspec.l0, if_pos (by omega), if_pos (by omega), if_neg hc]
        by_cases c1 : bt a i < 97
        · rw [if_pos c1]
          by_cases c2 : bt a i < 65
          · rw [if_pos c2]
          · rw [if_neg c2, decide_eq_true (by omega)]
        · rw [if_neg c1, if_pos (by omega), if_neg (by omega), decide_eq_true (by omega)]
theorem mayspec_ev (a : ByteArray) (hs : a.size < 4611686018427387904) : Ev (fun k => salvorref6_mayspec.f k a) (specL (bytesOf a 0) []).isSome ∧ (∀ fl, specL (bytesOf a 0) [] = some fl → fl = FF a a.size) := by
  obtain ⟨h1, h2⟩ := ms_at a hs a.size 0 (by omega) (by omega) (fun j hj => absurd hj (Nat.not_lt_zero _))
  exact ⟨h1, fun fl h => (h2 fl h).1⟩
/-- What kind a letter is: none, a flag, one with a value. -/
def kindV (fl : List S72) (c : Int) : Int := if 0 ≤ idxF fl c then (if (rd_T72 fl (idxF fl c)).f1 = true then 2 else 1) else 0
theorem rd_FF (a : ByteArray) (j : Nat) (c : Int) (hj : j < a.size) (h1 : bt a j = c) (h2 : c ≠ 58) (h3 : ∀ q : Nat, q < j → bt a q ≠ c) : 0 ≤ idxF (FF a a.size) c ∧ (rd_T72 (FF a a.size) (idxF (FF a a.size) c)).f1 = (decide (j + 1 < a.size) && decide (bt a ((j + 1 : Nat) : Int) = 58)) := by
  have hsp : LP a a.size = LP a j ++ j :: ((List.range' (j + 1) (a.size - (j + 1))).filter fun (q : Nat) => decide (bt a q ≠ 58)) := by
    unfold LP
    rw [List.range_eq_range', List.range_eq_range', show a.size = j + ((a.size - (j + 1)) + 1) by omega, ← List.range'_append_1, List.filter_append, Nat.zero_add, List.range'_succ, List.filter_cons, if_pos (by rw [decide_eq_true_iff, h1]; exact h2)]
    rw [show j + (a.size - (j + 1) + 1) - (j + 1) = a.size - (j + 1) by omega]
  have hFF : FF a a.size = (LP a j).map (fg a a.size) ++ fg a a.size j :: (((List.range' (j + 1) (a.size - (j + 1))).filter fun (q : Nat) => decide (bt a q ≠ 58)).map (fg a a.size)) := by
    unfold FF
    rw [hsp, List.map_append, List.map_cons]
  have hk : ((LP a j).map (fg a a.size)).length < (FF a a.size).length := by rw [hFF, List.length_append, List.length_cons]; omega
  have hrd : rd_T72 (FF a a.size) (((LP a j).map (fg a a.size)).length : Int) = fg a a.size j := by
    rw [rd72_get _ _ hk]
    simp only [hFF]
    rw [List.getElem_append_right (Nat.le_refl _)]
    simp
  have hi := idxF_hit (l := FF a a.size) (c := c) hk (by rw [hrd]; exact h1) (fun q hq => by
    rw [rd72_get _ _ (by omega)]
    simp only [hFF]
    rw [List.getElem_append_left hq, List.getElem_map]
    rw [List.length_map] at hq
    exact h3 _ (LP_mem.1 (List.getElem_mem hq)).1)
  rw [hi]
  exact ⟨by omega, by rw [hrd]; rfl⟩
theorem kind_at (a : ByteArray) (hs : a.size < 4611686018427387904) (c : Int) : ∀ d j : Nat, a.size - j = d → j ≤ a.size → (c ≠ 58 → ∀ q : Nat, q < j → bt a q ≠ c) → Ev (fun k => salvorref6_kind.l0 k a c (j : Int)) (kindV (FF a a.size) c) := by
  intro d
  induction d with
  | zero =>
    intro j hd hj hq
    have hno : ¬ 0 ≤ idxF (FF a a.size) c := by
      intro h
      obtain ⟨q, q1, q2, q3⟩ := (idx_FF a a.size c).1 h
      exact hq (by rw [← q3]; exact q2) q (by omega) q3
    unfold kindV
    rw [if_neg hno]
    exact Ev.step (f := fun _ => some 0) (fun k => by rw [salvorref6_kind.l0, if_neg (by omega)]) (Ev.now _)
  | succ d ih =>
    intro j hd hj hq
    have next : (bt a j ≠ c ∨ c = 58) → Ev (fun k => salvorref6_kind.j1 k a c (j : Int) false) (kindV (FF a a.size) c) := by
      intro h
      refine Ev.step (f := fun k => salvorref6_kind.l0 k a c ((j + 1 : Nat) : Int)) (fun k => ?_) (ih (j + 1) (by omega) (by omega) (fun hc q hq2 => by
        by_cases e : q = j
        · subst e
          rcases h with h | h
          · exact h
          · exact absurd h hc
        · exact hq hc q (by omega)))
      rw [salvorref6_kind.j1, if_neg (by simp), wn j (by omega)]
    by_cases h1 : bt a j = c
    · by_cases h2 : c = 58
      · refine Ev.step (f := fun k => salvorref6_kind.j1 k a c (j : Int) false) (fun k => ?_) (next (.inr h2))
        rw [salvorref6_kind.l0, if_pos (by omega), if_pos (by omega), if_pos h1, show (c != 58) = false by simp [h2]]
      · obtain ⟨k1, k2⟩ := rd_FF a j c (by omega) h1 h2 (hq h2)
        refine Ev.step (f := fun k => salvorref6_kind.j1 k a c (j : Int) true) (fun k => ?_) ?_
        · rw [salvorref6_kind.l0, if_pos (by omega), if_pos (by omega), if_pos h1, show (c != 58) = true by simp [h2]]
        · unfold kindV
          rw [if_pos k1, k2]
          by_cases h3 : j + 1 < a.size
          · by_cases h4 : bt a ((j + 1 : Nat) : Int) = 58
            · rw [decide_eq_true h3, decide_eq_true h4]
              refine Ev.step (f := fun _ => some 2) (fun k => ?_) (Ev.now _)
              rw [salvorref6_kind.j1, if_pos rfl, wn j (by omega), if_pos (by omega), if_pos (by omega), if_pos h4]
            · rw [decide_eq_true h3, decide_eq_false h4]
              refine Ev.step (f := fun _ => some 1) (fun k => ?_) (Ev.now _)
              rw [salvorref6_kind.j1, if_pos rfl, wn j (by omega), if_pos (by omega), if_pos (by omega), if_neg h4]
          · rw [decide_eq_false h3]
            refine Ev.step (f := fun _ => some 1) (fun k => ?_) (Ev.now _)
            rw [salvorref6_kind.j1, if_pos rfl, wn j (by omega), if_neg (by omega)]
    · refine Ev.step (f := fun k => salvorref6_kind.j1 k a c (j : Int) false) (fun k => ?_) (next (.inl h1))
      rw [salvorref6_kind.l0, if_pos (by omega), if_pos (by omega), if_neg h1]
theorem kind_ev (a : ByteArray) (hs : a.size < 4611686018427387904) (c : Int) : Ev (fun k => salvorref6_kind.f k a c) (kindV (FF a a.size) c) := kind_at a hs c a.size 0 (by omega) (by omega) (fun _ q hq => absurd hq (Nat.not_lt_zero _))
end Go.Proofs.YtlginoicaeonhaaDoor.Pure
