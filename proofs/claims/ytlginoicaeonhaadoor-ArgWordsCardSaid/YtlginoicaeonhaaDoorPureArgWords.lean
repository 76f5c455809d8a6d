/- The plain law of ArgWords. No program in sight. No conditions. -/
import Derived.Test.YtlginoicaeonhaaDoorArgC
import Derived.Test.YtlginoicaeonhaaDoorPureArgRuns
import Derived.Test.YtlginoicaeonhaaDoorPx11
import Derived.Test.YtlginoicaeonhaaDoorPx23
import Derived.Lib.SmallJoins
namespace Go.Proofs.YtlginoicaeonhaaDoor.Pure
open Go.RowKit Go.Proofs.YtlginoicaeonhaaDoorW.PrintWords Go.Proofs.YtlginoicaeonhaaDoorW.PrintLast Go.Proofs.YtlginoicaeonhaaDoor.P
set_option linter.unusedVariables false
set_option linter.unusedSimpArgs false
theorem runs_ev' : Ev (fun k => salvorlaw9_ArgRuns.f k) true := by
  obtain ⟨k, hk⟩ := ArgRuns
  exact Ev.of salvorlaw9_ArgRuns.mono hk
theorem rd_get (l : List ByteArray) (i : Nat) (hi : i < l.length) : rdOf ByteArray.empty l i = l[i] := by simp [rdOf, hi]
theorem wl1 (a0 : ByteArray) (a1 : Int) (l : List ByteArray) (t : ByteArray) (i : Nat) (hi : i < l.length) (hl : l.length < 4611686018427387904) (hp : (rdOf ByteArray.empty l i).size ≤ 300) (hno : ∀ j : Nat, j < (rdOf ByteArray.empty l i).size → bt (rdOf ByteArray.empty l i) j ≠ a1)
    (h : Ev (fun k => salvorlaw9_ArgWords.l0 k a0 a1 l t ((i + 1 : Nat) : Int)) true) : ∀ n j : Nat, (rdOf ByteArray.empty l i).size - j ≤ n → j ≤ (rdOf ByteArray.empty l i).size → Ev (fun k => salvorlaw9_ArgWords.l1 k a0 a1 l t i j) true
  | n, j, hn, hj => by
    have e1 : (0 : Int) ≤ (i : Int) := by omega
    have e2 : (i : Int) < (l.length : Int) := by omega
    by_cases hlt : j < (rdOf ByteArray.empty l i).size
    · cases n with
      | zero => omega
      | succ n =>
        obtain ⟨K, hK⟩ := wl1 a0 a1 l t i hi hl hp hno h n (j + 1) (by omega) (by omega)
        refine ⟨K + 1, fun k hk => ?_⟩
        obtain ⟨k, rfl⟩ : ∃ k', k = k' + 1 := ⟨k - 1, by omega⟩
        show salvorlaw9_ArgWords.l1 (k + 1) a0 a1 l t i j = _
        have e3 : (j : Int) < ((rdOf ByteArray.empty l i).size : Int) := by omega
        have e4 : (0 : Int) ≤ (j : Int) := by omega
        rw [salvorlaw9_ArgWords.l1, show wrap64 ((j : Int) + 1) = ((j + 1 : Nat) : Int) from by unfold wrap64; omega]
        simp only [if_pos e1, if_pos e2, if_pos e3, if_pos e4, if_neg (hno j hlt)]
        exact hK k (by omega)
    · obtain ⟨K, hK⟩ := h
      refine ⟨K + 1, fun k hk => ?_⟩
      obtain ⟨k, rfl⟩ : ∃ k', k = k' + 1 := ⟨k - 1, by omega⟩
      show salvorlaw9_ArgWords.l1 (k + 1) a0 a1 l t i j = _
      have e3 : ¬ (j : Int) < ((rdOf ByteArray.empty l i).size : Int) := by omega
      rw [salvorlaw9_ArgWords.l1, show wrap64 ((i : Int) + 1) = ((i + 1 : Nat) : Int) from by unfold wrap64; omega]
      simp only [if_pos e1, if_pos e2, if_neg e3]
      exact hK k (by omega)
theorem jn_drop (c : UInt8) (l : List (List UInt8)) (i : Nat) (hi : i < l.length) : jn c (l.drop i) = l[i] ++ (if i + 1 < l.length then c :: jn c (l.drop (i + 1)) else []) := by
  rw [List.drop_eq_getElem_cons hi]
  by_cases h : i + 1 < l.length
  · rw [if_pos h, List.drop_eq_getElem_cons h]; rfl
  · rw [if_neg h, List.drop_of_length_le (by omega)]; simp [jn]
theorem sz (s : ByteArray) : s.data.toList.length = s.size := Array.length_toList
theorem wl0 (a0 : ByteArray) (a1 : Int) (c : UInt8) (hc : (c.toNat : Int) = a1) (hsep : strOfNums [a1] = ⟨#[c]⟩) (l : List ByteArray) (h0 : 0 < l.length) (hl : l.length < 4611686018427387904) (hs : a0.size ≤ 300) (hno : ∀ p ∈ l, ∀ j : Nat, j < p.size → bt p j ≠ (c.toNat : Int)) :
    ∀ n i : Nat, n = l.length - i → i ≤ l.length → ∀ t : ByteArray, t.data.toList ++ (if i < l.length then (if 0 < i then c :: jn c ((l.map (·.data.toList)).drop i) else jn c ((l.map (·.data.toList)).drop i)) else []) = a0.data.toList → Ev (fun k => salvorlaw9_ArgWords.l0 k a0 a1 l t i) true
  | 0, i, hn, hi, t, ht => by
    rw [if_neg (by omega), List.append_nil] at ht
    obtain rfl := Go.WideShapes.bytes_inj ht
    obtain ⟨K, hK⟩ := runs_ev'
    refine ⟨K + 1, fun k hk => ?_⟩
    obtain ⟨k, rfl⟩ : ∃ k', k = k' + 1 := ⟨k - 1, by omega⟩
    show salvorlaw9_ArgWords.l0 (k + 1) t a1 l t i = _
    have e1 : ¬ (i : Int) < (l.length : Int) := by omega
    have e2 : (l.length : Int) > 0 := by omega
    have hK' : salvorlaw9_ArgRuns.f k = some true := hK k (by omega)
    rw [salvorlaw9_ArgWords.l0, if_neg e1, if_pos e2, if_pos rfl, hK']; rfl
  | n + 1, i, hn, hi, t, ht => by
    have hlt : i < l.length := by omega
    have e1 : (i : Int) < (l.length : Int) := by omega
    have e2 : (0 : Int) ≤ (i : Int) := by omega
    have hjd := jn_drop c (l.map (·.data.toList)) i (by rw [List.length_map]; exact hlt)
    simp only [List.getElem_map, List.length_map] at hjd
    rw [if_pos hlt, hjd] at ht
    clear hjd
    have hrd := rd_get l i hlt
    have hpn := hno l[i] (List.getElem_mem hlt)
    generalize l[i] = p at ht hrd hpn
    by_cases hi0 : 0 < i
    · rw [if_pos hi0] at ht
      have hlen := congrArg List.length ht
      simp only [List.length_append, List.length_cons, sz] at hlen
      have hz1 : (t ++ strOfNums [a1]).size = t.size + 1 := by rw [← sz, Go.Joins.data_append, List.length_append, sz, hsep]; rfl
      have hz2 : (strOfNums [a1]).size = 1 := by rw [hsep]; rfl
      have ih := wl0 a0 a1 c hc hsep l h0 hl hs hno n (i + 1) (by omega) (by omega) (t ++ strOfNums [a1] ++ p) (by
        rw [Go.Joins.data_append, Go.Joins.data_append, hsep, if_pos (show 0 < i + 1 by omega), ← ht]
        simp [List.append_assoc])
      obtain ⟨K, hK⟩ := wl1 a0 a1 l (t ++ strOfNums [a1] ++ p) i hlt hl (by rw [hrd]; omega) (by rw [hrd, ← hc]; exact hpn) ih _ 0 (Nat.le_refl _) (Nat.zero_le _)
      refine ⟨K + 2, fun k hk => ?_⟩
      obtain ⟨k, rfl⟩ : ∃ k', k = k' + 2 := ⟨k - 2, by omega⟩
      show salvorlaw9_ArgWords.l0 (k + 2) a0 a1 l t i = _
      have e3 : (i : Int) > 0 := by omega
      rw [salvorlaw9_ArgWords.l0, if_pos e1, if_pos e3]
      simp only [Option.bind_some]
      rw [if_pos (by omega), salvorlaw9_ArgWords.j1, if_pos e2, if_pos e1, hrd, if_pos (by omega)]
      exact hK k (by omega)
    · rw [if_neg hi0] at ht
      have hlen := congrArg List.length ht
      simp only [List.length_append, sz] at hlen
      have ih := wl0 a0 a1 c hc hsep l h0 hl hs hno n (i + 1) (by omega) (by omega) (t ++ p) (by
        rw [Go.Joins.data_append, if_pos (show 0 < i + 1 by omega), ← ht]
        simp [List.append_assoc])
      obtain ⟨K, hK⟩ := wl1 a0 a1 l (t ++ p) i hlt hl (by rw [hrd]; omega) (by rw [hrd, ← hc]; exact hpn) ih _ 0 (Nat.le_refl _) (Nat.zero_le _)
      refine ⟨K + 2, fun k hk => ?_⟩
      obtain ⟨k, rfl⟩ : ∃ k', k = k' + 2 := ⟨k - 2, by omega⟩
      show salvorlaw9_ArgWords.l0 (k + 2) a0 a1 l t i = _
      have e3 : ¬ (i : Int) > 0 := by omega
      rw [salvorlaw9_ArgWords.l0, if_pos e1, if_neg e3, salvorlaw9_ArgWords.j1, if_pos e2, if_pos e1, hrd, if_pos (by omega)]
      exact hK k (by omega)
theorem ArgWords : ∀ (x0 : ByteArray) (x1 : Int), x0.size ≤ maxLen → (Lit.int .u8 x1).wf = true → ∃ k, salvorlaw9_ArgWords.f k x0 x1 = some true := by
  intro a0 a1 _ hw
  have hr1 : 0 ≤ a1 ∧ a1 ≤ 255 := by simp only [Lit.wf, Bool.and_eq_true, decide_eq_true_eq] at hw; exact hw
  have hr := Ev.bind (f := fun k t => some t) runs_ev' (Ev.now true)
  refine Ev.rounds (g := fun k => salvorlaw9_ArgWords.f k a0 a1) ?_
  unfold salvorlaw9_ArgWords.f
  by_cases hb : (a0.size : Int) > 300
  · simp only [if_pos hb]; exact hr
  · simp only [if_neg hb]
    obtain ⟨c, hc⟩ : ∃ c : UInt8, c = UInt8.ofNat a1.toNat := ⟨_, rfl⟩
    have hsep : strOfNums [a1] = ⟨#[c]⟩ := by rw [hc]; rfl
    have hcn : (c.toNat : Int) = a1 := by rw [hc, UInt8.toNat_ofNat']; omega
    have hW : arg_Words.f a0 a1 = some (Lib.splitB ⟨#[c]⟩ 0 (Lib.countB a0 ⟨#[c]⟩) a0) := by
      unfold arg_Words.f strings_Split.f
      rw [hsep, if_pos ⟨by omega, Nat.le_refl 1⟩]; rfl
    rw [hW]
    simp only [Option.bind_some]
    obtain ⟨h1, h2⟩ := words_ok c _ a0 rfl
    have hlen := Lib.splitB_all ⟨#[c]⟩ (Nat.le_refl 1) 0 _ a0 rfl
    have hcn2 := Lib.countB_le ⟨#[c]⟩ (Nat.le_refl 1) a0.size a0 (Nat.le_refl _)
    exact wl0 a0 a1 c hcn hsep _ (by omega) (by omega) (by omega) h2 _ 0 rfl (Nat.zero_le _) ⟨#[]⟩ (by
      rw [if_pos (by omega), if_neg (by omega), List.drop_zero, h1]; rfl)
end Go.Proofs.YtlginoicaeonhaaDoor.Pure
