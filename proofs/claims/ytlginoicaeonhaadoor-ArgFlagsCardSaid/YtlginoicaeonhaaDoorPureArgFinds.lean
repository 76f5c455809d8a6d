/- The plain law of ArgFinds: what is found, whether others are there, and words. No program in sight. No conditions. -/
import Derived.Test.YtlginoicaeonhaaDoorPx0
import Derived.Test.YtlginoicaeonhaaDoorPx8
import Derived.Test.YtlginoicaeonhaaDoorPx11
import Derived.Test.YtlginoicaeonhaaDoorPx12
import Derived.Test.YtlginoicaeonhaaDoorPx14
import Derived.Test.YtlginoicaeonhaaDoorPx15
import Derived.Test.YtlginoicaeonhaaDoorPx21
import Derived.Test.YtlginoicaeonhaaDoorPx27
import Derived.Test.YtlginoicaeonhaaDoorPx28
import Derived.Test.YtlginoicaeonhaaDoorPx29
import Derived.Test.YtlginoicaeonhaaDoorPx30
import Derived.Test.YtlginoicaeonhaaDoorArgC
import Derived.Test.YtlginoicaeonhaaDoorPureArgRuns
import Derived.Test.YtlginoicaeonhaaDoorOpen
namespace Go.Proofs.YtlginoicaeonhaaDoor.Pure
open Go.RowKit Go.Proofs.YtlginoicaeonhaaDoorW.PrintWords Go.Proofs.YtlginoicaeonhaaDoorW.PrintLast Go.Proofs.YtlginoicaeonhaaDoor.P
set_option linter.unusedVariables false
set_option linter.unusedSimpArgs false
theorem runs_ev2 : Ev (fun k => salvorlaw9_ArgRuns.f k) true := by
  obtain ⟨k, hk⟩ := ArgRuns
  exact Ev.of salvorlaw9_ArgRuns.mono hk
theorem ws (n : Nat) (h : n < 4611686018427387904) : wrap64 ((n : Int) + 1) = ((n + 1 : Nat) : Int) := by unfold wrap64; omega
theorem scan (s : ByteArray) (hs : s.size < 4611686018427387904) (c : Int) (m : Nat) (hm : m ≤ s.size) (hno : ∀ j : Nat, j < m → bt s j ≠ c) (r : ByteArray × ByteArray × Bool) (h : Ev (fun k => salvorref6_cutAt.l0 k s c m) r) : ∀ d j : Nat, m - j = d → j ≤ m → Ev (fun k => salvorref6_cutAt.l0 k s c j) r := by
  intro d
  induction d with
  | zero => intro j hd hj; obtain rfl : j = m := by omega
            exact h
  | succ d ih =>
    intro j hd hj
    refine Ev.step (f := fun k => salvorref6_cutAt.l0 k s c ((j + 1 : Nat) : Int)) (fun k => ?_) (ih (j + 1) (by omega) (by omega))
    rw [salvorref6_cutAt.l0, if_pos (by omega), if_pos (by omega), if_neg (hno j (by omega)), ws j (by omega)]
theorem cut_miss (s : ByteArray) (hs : s.size < 4611686018427387904) (c : UInt8) (h : Lib.indexB s ⟨#[c]⟩ = -1) : Ev (fun k => salvorref6_cutAt.f k s (c.toNat : Int)) (s, ⟨#[]⟩, false) := by
  have hl : s.data.toList.length = s.size := Array.length_toList
  have hno : ∀ j : Nat, j < s.size → bt s j ≠ (c.toNat : Int) := by
    intro j hj e
    rcases Lib.index_spec s.data.toList [c] with ⟨_, h2⟩ | ⟨i, h1, h2, h3, _⟩
    · have := h2 j (by rw [hl]; omega)
      rw [occ_bt s c j hj, decide_eq_false_iff_not] at this
      exact this e
    · have h' : Lib.index s.data.toList [c] = -1 := h
      omega
  unfold salvorref6_cutAt.f
  refine scan s hs _ s.size (Nat.le_refl _) hno _ ?_ s.size 0 (by omega) (by omega)
  exact Ev.step (f := fun _ => some (s, ⟨#[]⟩, false)) (fun k => by rw [salvorref6_cutAt.l0, if_neg (by omega)]) (Ev.now _)
theorem cut_hit (s : ByteArray) (hs : s.size < 4611686018427387904) (c : UInt8) (i : Nat) (h : Lib.indexB s ⟨#[c]⟩ = i) (hi : i < s.size) : Ev (fun k => salvorref6_cutAt.f k s (c.toNat : Int)) (s.extract 0 i, s.extract (i + 1) s.size, true) := by
  have hl : s.data.toList.length = s.size := Array.length_toList
  have hix : Lib.index s.data.toList [c] = i := h
  have hno : Lib.NoOcc s.data.toList [c] i ∧ Lib.occAt s.data.toList [c] i = true := by
    rcases Lib.index_spec s.data.toList [c] with ⟨h3, _⟩ | ⟨j, h3, h4, h5, h6⟩
    · omega
    · obtain rfl : i = j := by omega
      exact ⟨h6, h5⟩
  obtain ⟨hno, hoc⟩ := hno
  rw [occ_bt s c i hi, decide_eq_true_iff] at hoc
  unfold salvorref6_cutAt.f
  refine scan s hs _ i (by omega) (fun j hj e => ?_) _ ?_ i 0 (by omega) (by omega)
  · have := hno j hj
    rw [occ_bt s c j (by omega), decide_eq_false_iff_not] at this
    exact this e
  · refine Ev.step (f := fun _ => some (s.extract 0 i, s.extract (i + 1) s.size, true)) (fun k => ?_) (Ev.now _)
    rw [salvorref6_cutAt.l0, if_pos (by omega), if_pos (by omega), if_pos hoc, if_pos (by omega), ws i (by omega), if_pos (by omega), if_pos (by omega)]
    rfl
theorem words_ref (c : UInt8) : ∀ (k : Nat) (s : ByteArray), s.size ≤ 1000 → Lib.countB s ⟨#[c]⟩ = k → ∀ acc : List ByteArray, acc.length + k ≤ 100000 → Ev (fun n => salvorref6_Words.l0 n s (c.toNat : Int) acc) (acc ++ Lib.splitB ⟨#[c]⟩ 0 k s)
  | k, s, hs, hk, acc, hacc => by
    rcases Lib.indexB_cases s ⟨#[c]⟩ with h | ⟨i, h, hi⟩
    · rw [Lib.splitB_miss _ _ _ _ h]
      refine Ev.step (f := fun n => (salvorref6_cutAt.f n s (c.toNat : Int)).bind fun bt356 => (if acc.length < 8796093022208 then ((some (acc ++ [bt356.1] : List ByteArray)).bind fun y359 => (if bt356.2.2 = true then (salvorref6_Words.l0 n bt356.2.1 (c.toNat : Int) y359) else (some y359))) else (none))) (fun n => by rw [salvorref6_Words.l0]) ?_
      refine Ev.bind (cut_miss s (by omega) c h) ?_
      simp only [if_pos (show acc.length < 8796093022208 by omega)]
      exact Ev.now _
    · have hsz : (⟨#[c]⟩ : ByteArray).size = 1 := rfl
      rw [hsz] at hi
      have hc := Lib.countB_hit s ⟨#[c]⟩ i (by rw [hsz]; omega) h
      rw [hsz] at hc
      cases k with
      | zero => omega
      | succ k =>
        rw [Lib.splitB_hit _ _ _ _ _ h, hsz, Nat.add_zero]
        have hes : (s.extract (i + 1) s.size).size ≤ 1000 := by
          have := congrArg List.length (Lib.extract_to_end s (i + 1))
          rw [Array.length_toList, List.length_drop, Array.length_toList] at this
          have h9 : (s.extract (i + 1) s.size).size = (s.extract (i + 1) s.size).data.size := rfl
          have h8 : s.size = s.data.size := rfl
          omega
        have ih := words_ref c k (s.extract (i + 1) s.size) hes (by omega) (acc ++ [s.extract 0 i]) (by simp; omega)
        refine Ev.step (f := fun n => (salvorref6_cutAt.f n s (c.toNat : Int)).bind fun bt356 => (if acc.length < 8796093022208 then ((some (acc ++ [bt356.1] : List ByteArray)).bind fun y359 => (if bt356.2.2 = true then (salvorref6_Words.l0 n bt356.2.1 (c.toNat : Int) y359) else (some y359))) else (none))) (fun n => by rw [salvorref6_Words.l0]) ?_
        refine Ev.bind (cut_hit s (by omega) c i h (by omega)) ?_
        simp only [if_pos (show acc.length < 8796093022208 by omega)]
        rw [List.append_assoc] at ih
        exact Ev.bind (Ev.now _) ih
theorem texts_at2 (l : List ByteArray) (hl : l.length < 4611686018427387904) : ∀ d i : Nat, l.length - i = d → i ≤ l.length → Ev (fun k => salvorref1_SameTexts.l0 k l l i) true := by
  intro d
  induction d with
  | zero => intro i hd hi; exact Ev.step (f := fun _ => some true) (fun k => by rw [salvorref1_SameTexts.l0, if_neg (by omega)]) (Ev.now _)
  | succ d ih =>
    intro i hd hi
    refine Ev.step (f := fun k => salvorref1_SameTexts.l0 k l l ((i + 1 : Nat) : Int)) (fun k => ?_) (ih (i + 1) (by omega) (by omega))
    have e1 : (i : Int) < (l.length : Int) := by omega
    have e2 : (0 : Int) ≤ (i : Int) := by omega
    rw [salvorref1_SameTexts.l0, ws i (by omega)]
    simp [e1, e2]
theorem texts_ev2 (l : List ByteArray) (hl : l.length < 4611686018427387904) : Ev (fun k => salvorref1_SameTexts.f k l l) true := by
  refine Ev.congr (fun k => ?_) (texts_at2 l hl l.length 0 (by omega) (by omega))
  unfold salvorref1_SameTexts.f
  rw [if_pos rfl]; rfl
/-- The reference's Only. -/
theorem only_in (l : List S31) (keys : List ByteArray) (i : Nat) (hi : i < l.length) (hl : l.length < 10000) (hk : keys.length < 10000) (r : Bool) (hyes : inS keys (rd_T31 l i).f0 = true → Ev (fun k => salvorref6_Only.l0 k l keys ((i + 1 : Nat) : Int)) r) (hno : inS keys (rd_T31 l i).f0 = false → r = false) :
    ∀ d j : Nat, keys.length - j = d → j ≤ keys.length → ∀ b : Bool, b = (keys.take j).any (fun q => q.toList == (rd_T31 l i).f0.toList) → Ev (fun k => salvorref6_Only.l1 k l keys (i : Int) b (j : Int)) r := by
  intro d
  induction d with
  | zero =>
    intro j hd hj b hb
    have e : inS keys (rd_T31 l i).f0 = b := by rw [hb, List.take_of_length_le (by omega)]; rfl
    cases b with
    | true =>
      refine Ev.step (f := fun k => salvorref6_Only.l0 k l keys ((i + 1 : Nat) : Int)) (fun k => ?_) (hyes e)
      rw [salvorref6_Only.l1, if_neg (by omega), if_pos rfl, ws i (by omega)]
    | false =>
      rw [hno e]
      refine Ev.step (f := fun _ => some false) (fun k => ?_) (Ev.now _)
      rw [salvorref6_Only.l1, if_neg (by omega), if_neg (by simp)]
  | succ d ih =>
    intro j hd hj b hb
    have hlt : j < keys.length := by omega
    have ht : keys.take (j + 1) = keys.take j ++ [keys[j]] := by rw [List.take_add_one, List.getElem?_eq_getElem hlt]; rfl
    have hrd := rdOf_gt keys j hlt
    cases b with
    | true =>
      refine Ev.step (f := fun k => salvorref6_Only.l1 k l keys (i : Int) true ((j + 1 : Nat) : Int)) (fun k => ?_) (ih (j + 1) (by omega) (by omega) true (by rw [ht, List.any_append, ← hb]; rfl))
      rw [salvorref6_Only.l1, if_pos (by omega), if_pos rfl, ws j (by omega)]
    | false =>
      refine Ev.step (f := fun k => salvorref6_Only.l1 k l keys (i : Int) (keys[j].toList == (rd_T31 l i).f0.toList) ((j + 1 : Nat) : Int)) (fun k => ?_) (ih (j + 1) (by omega) (by omega) (keys[j].toList == (rd_T31 l i).f0.toList) (by rw [ht, List.any_append, ← hb]; simp))
      rw [salvorref6_Only.l1, if_pos (by omega), if_neg (by simp), if_pos (by omega), if_pos (by omega), if_pos (by omega), hrd, ws j (by omega)]
theorem only_at (l : List S31) (keys : List ByteArray) (hl : l.length < 10000) (hk : keys.length < 10000) : ∀ d i : Nat, l.length - i = d → i ≤ l.length → Ev (fun k => salvorref6_Only.l0 k l keys (i : Int)) (!outF keys (l.drop i)) := by
  intro d
  induction d with
  | zero =>
    intro i hd hi
    rw [List.drop_eq_nil_of_le (by omega)]
    exact Ev.step (f := fun _ => some true) (fun k => by rw [salvorref6_Only.l0, if_neg (by omega)]) (Ev.now _)
  | succ d ih =>
    intro i hd hi
    have hlt : i < l.length := by omega
    have hrd := rd31_get l i hlt
    have e : outF keys (l.drop i) = ((!inS keys (rd_T31 l i).f0) || outF keys (l.drop (i + 1))) := by
      rw [List.drop_eq_getElem_cons hlt, hrd]; rfl
    refine Ev.step (f := fun k => salvorref6_Only.l1 k l keys (i : Int) false ((0 : Nat) : Int)) (fun k => ?_) ?_
    · rw [salvorref6_Only.l0, if_pos (by omega)]; rfl
    · refine only_in l keys i hlt hl hk _ (fun h => ?_) (fun h => ?_) keys.length 0 (by omega) (by omega) false rfl
      · rw [e, h]
        exact ih (i + 1) (by omega) (by omega)
      · rw [e, h]; rfl
theorem only_ev (l : List S31) (keys : List ByteArray) (hl : l.length < 10000) (hk : keys.length < 10000) : Ev (fun k => salvorref6_Only.f k l keys) (!outF keys l) := only_at l keys hl hk l.length 0 (by omega) (by omega)
theorem ArgFinds : ∀ (x0 : List S31) (x1 : List ByteArray) (x2 : ByteArray) (x3 : ByteArray) (x4 : Int), (∀ x_ ∈ x0, Open.WF31 x_) → (∀ x_ ∈ x1, x_.size ≤ maxLen) → x2.size ≤ maxLen → x3.size ≤ maxLen → (Lit.int .u8 x4).wf = true → ∃ k, salvorlaw9_ArgFinds.f k x0 x1 x2 x3 x4 = some true := by
  intro l keys key s a1 _ _ _ _ hw
  have hr1 : 0 ≤ a1 ∧ a1 ≤ 255 := by simp only [Lit.wf, Bool.and_eq_true, decide_eq_true_eq] at hw; exact hw
  have hr : Ev (fun k => (salvorlaw9_ArgRuns.f k).bind fun t => some t) true := Ev.bind runs_ev2 (Ev.now true)
  have no : Ev (fun k => salvorlaw9_ArgFinds.j0 k l keys key s a1 true) true := Ev.step (f := fun k => (salvorlaw9_ArgRuns.f k).bind fun t => some t) (fun k => by rw [salvorlaw9_ArgFinds.j0, if_pos rfl]) hr
  refine Ev.rounds (g := fun k => salvorlaw9_ArgFinds.f k l keys key s a1) ?_
  unfold salvorlaw9_ArgFinds.f
  by_cases c1 : (l.length : Int) > 60
  · simp only [if_pos c1]; exact no
  · by_cases c2 : (keys.length : Int) > 60
    · simp only [if_neg c1, if_pos c2]; exact no
    · by_cases c3 : (s.size : Int) > 300
      · simp only [if_neg c1, if_neg c2, decide_eq_true c3]; exact no
      · simp only [if_neg c1, if_neg c2, decide_eq_false c3]
        obtain ⟨c, hc⟩ : ∃ c : UInt8, c = UInt8.ofNat a1.toNat := ⟨_, rfl⟩
        have hsep : strOfNums [a1] = ⟨#[c]⟩ := by rw [hc]; rfl
        have hcn : (c.toNat : Int) = a1 := by rw [hc, UInt8.toNat_ofNat']; omega
        have hW : arg_Words.f s a1 = some (Lib.splitB ⟨#[c]⟩ 0 (Lib.countB s ⟨#[c]⟩) s) := by
          unfold arg_Words.f strings_Split.f
          rw [hsep, if_pos ⟨by omega, Nat.le_refl 1⟩]; rfl
        have hO : arg_Only.f l keys = some (!outF keys l) := by
          unfold arg_Only.f
          rw [if_pos ⟨by omega, by omega⟩]
        have hcn2 := Lib.countB_le ⟨#[c]⟩ (Nat.le_refl 1) s.size s (Nat.le_refl _)
        have hlen := Lib.splitB_all ⟨#[c]⟩ (Nat.le_refl 1) 0 _ s rfl
        have hwr := words_ref c _ s (by omega) rfl [] (by simp; omega)
        rw [hcn, List.nil_append] at hwr
        have hwr2 : Ev (fun k => salvorref6_Words.f k s a1) (Lib.splitB ⟨#[c]⟩ 0 (Lib.countB s ⟨#[c]⟩) s) := hwr
        refine Ev.step (f := fun k => (some (arg_Find.g l key l.length)).bind fun bt363 => ((salvorref6_Find.f k l key).bind fun bt365 => (if bt363.1.toList = bt365.1.toList then (if (bt363.2 == bt365.2) = true then ((some (!outF keys l)).bind fun t367 => ((salvorref6_Only.f k l keys).bind fun t368 => (if (t367 == t368) = true then ((some (Lib.splitB ⟨#[c]⟩ 0 (Lib.countB s ⟨#[c]⟩) s)).bind fun t369 => ((salvorref6_Words.f k s a1).bind fun t372 => ((salvorref1_SameTexts.f k t369 t372).bind fun t375 => (if t375 = true then ((salvorlaw9_ArgRuns.f k).bind fun t376 => (some t376)) else (some false))))) else (some false)))) else (some false)) else (some false)))) (fun k => ?_) ?_
        · rw [salvorlaw9_ArgFinds.j0, if_neg (by simp), hO, hW]; rfl
        · refine Ev.bind (Ev.now _) (Ev.bind (find_ev l key (by omega)) ?_)
          simp only [if_true, beq_self_eq_true]
          refine Ev.bind (Ev.now _) (Ev.bind (only_ev l keys (by omega) (by omega)) ?_)
          simp only [if_true, beq_self_eq_true]
          refine Ev.bind (Ev.now _) (Ev.bind hwr2 (Ev.bind (texts_ev2 _ (by omega)) ?_))
          simp only [if_true]
          exact hr
end Go.Proofs.YtlginoicaeonhaaDoor.Pure
