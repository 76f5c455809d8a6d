/- The plain law of ArgOperands: the operands are the reference's, for all arguments. No program in sight. No conditions. -/
import Derived.Test.YtlginoicaeonhaaDoorPx0
import Derived.Test.YtlginoicaeonhaaDoorPx5
import Derived.Test.YtlginoicaeonhaaDoorPx8
import Derived.Test.YtlginoicaeonhaaDoorPx9
import Derived.Test.YtlginoicaeonhaaDoorPx12
import Derived.Test.YtlginoicaeonhaaDoorPx14
import Derived.Test.YtlginoicaeonhaaDoorPx15
import Derived.Test.YtlginoicaeonhaaDoorPx16
import Derived.Test.YtlginoicaeonhaaDoorPx17
import Derived.Test.YtlginoicaeonhaaDoorArgB
import Derived.Test.YtlginoicaeonhaaDoorPureArgRuns
namespace Go.Proofs.YtlginoicaeonhaaDoor.Pure
open Go.RowKit Go.Proofs.YtlginoicaeonhaaDoorW.PrintWords Go.Proofs.YtlginoicaeonhaaDoorW.PrintLast Go.Proofs.YtlginoicaeonhaaDoor.P
set_option linter.unusedVariables false
set_option linter.unusedSimpArgs false
theorem same_at (l : List S31) (hl : l.length < 4611686018427387904) : ∀ n i : Nat, l.length - i ≤ n → i ≤ l.length → Ev (fun k => salvorref1_SameOpts.l0 k l l i) true
  | n, i, hn, hi => by
    by_cases hlt : i < l.length
    · cases n with
      | zero => omega
      | succ n =>
        obtain ⟨K, hK⟩ := same_at l hl n (i + 1) (by omega) (by omega)
        refine ⟨K + 1, fun k hk => ?_⟩
        obtain ⟨k, rfl⟩ : ∃ k', k = k' + 1 := ⟨k - 1, by omega⟩
        show salvorref1_SameOpts.l0 (k + 1) l l i = _
        have e1 : (i : Int) < (l.length : Int) := by omega
        have e2 : (0 : Int) ≤ (i : Int) := by omega
        rw [salvorref1_SameOpts.l0, show wrap64 ((i : Int) + 1) = ((i + 1 : Nat) : Int) from by unfold wrap64; omega]
        simp only [if_pos e1, if_pos e2]
        rw [if_neg (by simp)]
        exact hK k (by omega)
    · refine ⟨1, fun k hk => ?_⟩
      obtain ⟨k, rfl⟩ : ∃ k', k = k' + 1 := ⟨k - 1, by omega⟩
      show salvorref1_SameOpts.l0 (k + 1) l l i = _
      rw [salvorref1_SameOpts.l0, if_neg (by omega)]
theorem same_ev (l : List S31) (hl : l.length < 4611686018427387904) : Ev (fun k => salvorref1_SameOpts.f k l l) true := by
  refine Ev.congr (fun k => ?_) (same_at l hl l.length 0 (by omega) (by omega))
  unfold salvorref1_SameOpts.f
  rw [if_pos rfl]; rfl
/-- Operands from an index on, and those ahead. -/
def opsR (l : List ByteArray) : Nat → Nat → List S31 → List S31 × Bool
  | 0, _, out => (out, true)
  | n + 1, i, out =>
    if cutH (rdOf ByteArray.empty l i) = true ∧ keyB (cutK (rdOf ByteArray.empty l i)) = true ∧ ((arg_Find.g out (cutK (rdOf ByteArray.empty l i)) out.length).2 = true → (cutK (rdOf ByteArray.empty l i)).toList = [99, 111, 110, 118] ∨ (cutK (rdOf ByteArray.empty l i)).toList = [105, 102, 108, 97, 103])
    then opsR l n (i + 1) (out ++ [⟨cutK (rdOf ByteArray.empty l i), cutV (rdOf ByteArray.empty l i)⟩])
    else ([], false)
theorem ops_at (l : List ByteArray) (hl : l.length ≤ 60) (hs : ∀ j : Nat, j < l.length → (rdOf ByteArray.empty l j).size ≤ 1000) : ∀ n i : Nat, n = l.length - i → i ≤ l.length → ∀ out : List S31, out.length ≤ i → Ev (fun k => arg_Operands.l0 k out l l.length i) (opsR l n i out) ∧ Ev (fun k => salvorref6_Operands.l0 k l out i) (opsR l n i out) ∧ (opsR l n i out).1.length ≤ 60
  | 0, i, hn, hi, out, ho => by
    have e1 : ¬ (i : Int) < (l.length : Int) := by omega
    refine ⟨⟨1, fun k hk => ?_⟩, ⟨1, fun k hk => ?_⟩, by show out.length ≤ 60; omega⟩
    · obtain ⟨k, rfl⟩ : ∃ k', k = k' + 1 := ⟨k - 1, by omega⟩
      show arg_Operands.l0 (k + 1) out l l.length i = _
      rw [arg_Operands.l0, if_neg e1]; rfl
    · obtain ⟨k, rfl⟩ : ∃ k', k = k' + 1 := ⟨k - 1, by omega⟩
      show salvorref6_Operands.l0 (k + 1) l out i = _
      rw [salvorref6_Operands.l0, if_neg e1]; rfl
  | n + 1, i, hn, hi, out, ho => by
    have e1 : (i : Int) < (l.length : Int) := by omega
    have e2 : (0 : Int) ≤ (i : Int) := by omega
    have e3 : wrap64 ((i : Int) + 1) = ((i + 1 : Nat) : Int) := by unfold wrap64; omega
    have hsz := hs i (by omega)
    obtain ⟨s, hsd⟩ : ∃ s, rdOf ByteArray.empty l (i : Int) = s := ⟨_, rfl⟩
    rw [hsd] at hsz
    rw [opsR, hsd]
    have hck := cutK_size s
    have HS := scut s (by omega)
    obtain ⟨Kc, hKc⟩ := cut_ev s (by omega)
    obtain ⟨Kk, hKk⟩ := key_ev (cutK s) (by omega)
    obtain ⟨Kl, hKl⟩ := letters_ev (cutK s) (by omega)
    obtain ⟨Kh, hKh⟩ := has_ev out (cutK s) (by omega)
    obtain ⟨⟨K1, h1⟩, ⟨K2, h2⟩, h3⟩ := ops_at l hl hs n (i + 1) (by omega) (by omega) (out ++ [⟨cutK s, cutV s⟩]) (by simp; omega)
    replace hKc : ∀ k, Kc ≤ k → salvorref6_cutAt.f k s 61 = some (cutK s, cutV s, cutH s) := hKc
    replace hKk : ∀ k, Kk ≤ k → arg_key.f k (cutK s) = some (keyB (cutK s)) := hKk
    replace hKl : ∀ k, Kl ≤ k → salvorref6_letters.f k (cutK s) = some (keyB (cutK s)) := hKl
    replace hKh : ∀ k, Kh ≤ k → salvorref6_has.f k out (cutK s) = some (arg_Find.g out (cutK s) out.length).2 := hKh
    have hFind : arg_Find.f out (cutK s) = some (arg_Find.g out (cutK s) out.length) := rfl
    have hA : ∀ k, arg_Operands.l0 (k + 2) out l l.length i = if cutH s = true then ((arg_key.f (k + 1) (cutK s)).bind fun t => (arg_Operands.j1 (k + 1) out (cutK s) (cutV s) l l.length i (!t))) else (arg_Operands.j1 (k + 1) out (cutK s) (cutV s) l l.length i true) := fun k => by
      rw [arg_Operands.l0, if_pos e1, if_pos e2, if_pos e1, hsd, HS]; rfl
    have hJt : ∀ k, arg_Operands.j1 (k + 1) out (cutK s) (cutV s) l l.length i true = some ([], false) := fun k => by rw [arg_Operands.j1, if_pos rfl]
    have hB : ∀ k, Kc ≤ k → salvorref6_Operands.l0 (k + 1) l out i = if cutH s = true then ((salvorref6_letters.f k (cutK s)).bind fun t169 => (if t169 = true then ((salvorref6_has.f k out (cutK s)).bind fun t170 => (if t170 = true then (if (cutK s).toList = ([99, 111, 110, 118] : List UInt8) then (salvorref6_Operands.l0 k l (out ++ [(⟨cutK s, cutV s⟩ : S31)]) ((i + 1 : Nat) : Int)) else (if (cutK s).toList = ([105, 102, 108, 97, 103] : List UInt8) then (salvorref6_Operands.l0 k l (out ++ [(⟨cutK s, cutV s⟩ : S31)]) ((i + 1 : Nat) : Int)) else (some (([] : List (S31)), false)))) else (salvorref6_Operands.l0 k l (out ++ [(⟨cutK s, cutV s⟩ : S31)]) ((i + 1 : Nat) : Int)))) else (some (([] : List (S31)), false)))) else (some (([] : List (S31)), false)) := fun k hk => by
      have hlen : out.length < 4398046511104 := by omega
      rw [salvorref6_Operands.l0, if_pos e1, if_pos e2, hsd, hKc k hk, e3]
      simp only [Option.bind_some, if_pos hlen]
    have hJf : ∀ k, arg_Operands.j1 (k + 1) out (cutK s) (cutV s) l l.length i false = if (arg_Find.g out (cutK s) out.length).2 = true then (if (cutK s).toList = ([99, 111, 110, 118] : List UInt8) then (arg_Operands.l0 k (out ++ [(⟨cutK s, cutV s⟩ : S31)]) l l.length ((i + 1 : Nat) : Int)) else (if (cutK s).toList = ([105, 102, 108, 97, 103] : List UInt8) then (arg_Operands.l0 k (out ++ [(⟨cutK s, cutV s⟩ : S31)]) l l.length ((i + 1 : Nat) : Int)) else (some (([] : List (S31)), false)))) else (arg_Operands.l0 k (out ++ [(⟨cutK s, cutV s⟩ : S31)]) l l.length ((i + 1 : Nat) : Int)) := fun k => by
      have hlen : out.length < 4398046511104 := by omega
      rw [arg_Operands.j1, if_neg (by simp), hFind, e3]
      simp only [Option.bind_some, if_pos hlen]
    generalize (arg_Find.g out (cutK s) out.length).2 = fnd at hKh hJf ⊢
    clear HS hFind
    by_cases hc : cutH s = true
    · by_cases hk : keyB (cutK s) = true
      · by_cases hf : fnd = true → (cutK s).toList = [99, 111, 110, 118] ∨ (cutK s).toList = [105, 102, 108, 97, 103]
        · rw [if_pos ⟨hc, hk, hf⟩]
          refine ⟨⟨K1 + Kk + 2, fun k hkk => ?_⟩, ⟨K2 + Kc + Kl + Kh + 1, fun k hkk => ?_⟩, h3⟩
          · obtain ⟨k, rfl⟩ : ∃ k', k = k' + 2 := ⟨k - 2, by omega⟩
            show arg_Operands.l0 (k + 2) out l l.length i = _
            rw [hA k, if_pos hc, hKk (k + 1) (by omega), hk]
            show arg_Operands.j1 (k + 1) out (cutK s) (cutV s) l l.length i false = _
            rw [hJf k]
            have hg := h1 k (by omega)
            by_cases h5 : fnd = true
            · rw [if_pos h5]
              by_cases h6 : (cutK s).toList = [99, 111, 110, 118]
              · rw [if_pos h6]; exact hg
              · rw [if_neg h6, if_pos ((hf h5).resolve_left h6)]; exact hg
            · rw [if_neg h5]; exact hg
          · obtain ⟨k, rfl⟩ : ∃ k', k = k' + 1 := ⟨k - 1, by omega⟩
            show salvorref6_Operands.l0 (k + 1) l out i = _
            rw [hB k (by omega), if_pos hc, hKl k (by omega), hk]
            simp only [Option.bind_some, if_true]
            rw [hKh k (by omega)]
            simp only [Option.bind_some]
            have hg := h2 k (by omega)
            by_cases h5 : fnd = true
            · rw [if_pos h5]
              by_cases h6 : (cutK s).toList = [99, 111, 110, 118]
              · rw [if_pos h6]; exact hg
              · rw [if_neg h6, if_pos ((hf h5).resolve_left h6)]; exact hg
            · rw [if_neg h5]; exact hg
        · rw [if_neg (fun h => hf h.2.2)]
          have h5 : fnd = true := by
            cases fnd with
            | true => rfl
            | false => exact absurd (fun e => by cases e) hf
          have h6 : ¬ (cutK s).toList = [99, 111, 110, 118] := fun e => hf fun _ => .inl e
          have h7 : ¬ (cutK s).toList = [105, 102, 108, 97, 103] := fun e => hf fun _ => .inr e
          refine ⟨⟨Kk + 2, fun k hkk => ?_⟩, ⟨Kc + Kl + Kh + 1, fun k hkk => ?_⟩, by simp⟩
          · obtain ⟨k, rfl⟩ : ∃ k', k = k' + 2 := ⟨k - 2, by omega⟩
            show arg_Operands.l0 (k + 2) out l l.length i = _
            rw [hA k, if_pos hc, hKk (k + 1) (by omega), hk]
            show arg_Operands.j1 (k + 1) out (cutK s) (cutV s) l l.length i false = _
            rw [hJf k, if_pos h5, if_neg h6, if_neg h7]
          · obtain ⟨k, rfl⟩ : ∃ k', k = k' + 1 := ⟨k - 1, by omega⟩
            show salvorref6_Operands.l0 (k + 1) l out i = _
            rw [hB k (by omega), if_pos hc, hKl k (by omega), hk]
            simp only [Option.bind_some, if_true]
            rw [hKh k (by omega)]
            simp only [Option.bind_some]
            rw [if_pos h5, if_neg h6, if_neg h7]
      · rw [if_neg (fun h => hk h.2.1)]
        have hk2 : keyB (cutK s) = false := by simpa using hk
        refine ⟨⟨Kk + 2, fun k hkk => ?_⟩, ⟨Kc + Kl + 1, fun k hkk => ?_⟩, by simp⟩
        · obtain ⟨k, rfl⟩ : ∃ k', k = k' + 2 := ⟨k - 2, by omega⟩
          show arg_Operands.l0 (k + 2) out l l.length i = _
          rw [hA k, if_pos hc, hKk (k + 1) (by omega), hk2]
          exact hJt k
        · obtain ⟨k, rfl⟩ : ∃ k', k = k' + 1 := ⟨k - 1, by omega⟩
          show salvorref6_Operands.l0 (k + 1) l out i = _
          rw [hB k (by omega), if_pos hc, hKl k (by omega), hk2]
          rfl
    · rw [if_neg (fun h => hc h.1)]
      refine ⟨⟨2, fun k hkk => ?_⟩, ⟨Kc + 1, fun k hkk => ?_⟩, by simp⟩
      · obtain ⟨k, rfl⟩ : ∃ k', k = k' + 2 := ⟨k - 2, by omega⟩
        show arg_Operands.l0 (k + 2) out l l.length i = _
        rw [hA k, if_neg hc]
        exact hJt k
      · obtain ⟨k, rfl⟩ : ∃ k', k = k' + 1 := ⟨k - 1, by omega⟩
        show salvorref6_Operands.l0 (k + 1) l out i = _
        rw [hB k (by omega), if_neg hc]
theorem ops_ev (l : List ByteArray) (hl : l.length ≤ 60) (hs : ∀ s ∈ l, s.size ≤ 100) : ∃ x, Ev (fun k => arg_Operands.f k l) x ∧ Ev (fun k => salvorref6_Operands.f k l) x ∧ x.1.length ≤ 60 := by
  by_cases h : (l.length : Int) > 40
  · exact ⟨([], false), Ev.congr (fun k => by unfold arg_Operands.f; rw [if_pos h]) (Ev.now _), Ev.congr (fun k => by unfold salvorref6_Operands.f; rw [if_pos h]) (Ev.now _), by simp⟩
  · obtain ⟨h1, h2, h3⟩ := ops_at l hl (fun j hj => by have h := hs _ (show rdOf ByteArray.empty l j ∈ l from by rw [show rdOf ByteArray.empty l j = l[j] from by simp [rdOf, hj]]; exact List.getElem_mem hj); omega) l.length 0 (by omega) (by omega) [] (by simp)
    exact ⟨_, Ev.congr (fun k => by unfold arg_Operands.f; rw [if_neg h]; rfl) h1, Ev.congr (fun k => by unfold salvorref6_Operands.f; rw [if_neg h]; rfl) h2, h3⟩
theorem runs_ev : Ev (fun k => salvorlaw9_ArgRuns.f k) true := by
  obtain ⟨k, hk⟩ := ArgRuns
  exact Ev.of salvorlaw9_ArgRuns.mono hk
theorem ArgOperands : ∀ (x0 : List ByteArray), (∀ x_ ∈ x0, x_.size ≤ maxLen) → ∃ k, salvorlaw9_ArgOperands.f k x0 = some true := by
  intro l _
  obtain ⟨b, h1, h2⟩ := few_ev l 60 (by omega) (by omega)
  have hr := Ev.bind (f := fun k t => some t) runs_ev (Ev.now true)
  refine Ev.rounds ?_
  unfold salvorlaw9_ArgOperands.f
  refine Ev.bind h1 ?_
  cases b with
  | false => simpa using hr
  | true =>
    obtain ⟨h3, h4⟩ := h2 rfl
    obtain ⟨x, h5, h6, h7⟩ := ops_ev l (by omega) h4
    simp only [if_true]
    refine Ev.bind h5 (Ev.bind h6 (Ev.bind (same_ev x.1 (by omega)) ?_))
    simpa using hr
end Go.Proofs.YtlginoicaeonhaaDoor.Pure
