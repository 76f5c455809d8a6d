/- The plain law of ArgKeys. No program in sight. No conditions. -/
import Derived.Test.YtlginoicaeonhaaDoorPureArgOperands
import Derived.Test.YtlginoicaeonhaaDoorArgD
import Derived.Test.YtlginoicaeonhaaDoorPx25
namespace Go.Proofs.YtlginoicaeonhaaDoor.Pure
open Go.RowKit Go.Proofs.YtlginoicaeonhaaDoorW.PrintWords Go.Proofs.YtlginoicaeonhaaDoorW.PrintLast Go.Proofs.YtlginoicaeonhaaDoor.P
set_option linter.unusedVariables false
set_option linter.unusedSimpArgs false
theorem opsR_run (v : List ByteArray) (n : Nat) (hn : n ≤ 8) (L : List ByteArray) (hL : ∀ i : Nat, i < n → rdOf ByteArray.empty L i = mkA v i) : ∀ (m i r : Nat), i + m ≤ n → opsR L (m + r) i (Os v i) = opsR L r (i + m) (Os v (i + m))
  | 0, i, r, h => by rw [Nat.zero_add, Nat.add_zero]
  | m + 1, i, r, h => by
    rw [show m + 1 + r = (m + r) + 1 from by omega, opsR, hL i (by omega)]
    obtain ⟨k1, k2, k3⟩ := ky_ok ⟨i, by omega⟩
    obtain ⟨c1, c2, c3⟩ := cut_mk (ky i) (rdOf ByteArray.empty v i) k3
    have hf := find_new v i (by omega)
    unfold mkA
    rw [c1, c2, c3, if_pos ⟨rfl, k1, fun e => by rw [hf] at e; cases e⟩]
    have ih := opsR_run v n hn L hL m (i + 1) r (by omega)
    rw [Os_succ] at ih
    rw [show i + (m + 1) = i + 1 + m from by omega, ← ih]
    rfl
theorem opsR_As (v : List ByteArray) (n : Nat) (hn : n ≤ 8) : opsR (As v n) n 0 [] = (Os v n, true) := by
  have h := opsR_run v n hn (As v n) (fun i hi => As_rd v n i hi) n 0 0 (by omega)
  rw [Nat.add_zero, Nat.zero_add] at h
  exact h
theorem opsR_two (v : List ByteArray) (n j : Nat) (hn : n ≤ 8) (hj : j < n) : opsR (As v n ++ [mkA v j]) (n + 1) 0 [] = if j = 3 ∨ j = 4 then (Os v n ++ [mkO v j], true) else ([], false) := by
  have h := opsR_run v n hn (As v n ++ [mkA v j]) (fun i hi => by
    have := As_rd v n i hi
    simpa [rdOf, List.getElem?_append_left (show i < (As v n).length by rw [As_len]; exact hi)] using this) n 0 1 (by omega)
  rw [Nat.zero_add] at h
  have h' : opsR (As v n ++ [mkA v j]) (n + 1) 0 [] = opsR (As v n ++ [mkA v j]) 1 n (Os v n) := h
  have hr : rdOf ByteArray.empty (As v n ++ [mkA v j]) n = mkA v j := by simp [rdOf, As_len]
  obtain ⟨k1, k2, k3⟩ := ky_ok ⟨j, by omega⟩
  obtain ⟨v1, v2⟩ := ky_conv ⟨j, by omega⟩
  simp only at v1 v2
  obtain ⟨c1, c2, c3⟩ := cut_mk (ky j) (rdOf ByteArray.empty v j) k3
  have hf := find_old v n j hn hj
  rw [h', opsR, hr]
  unfold mkA
  rw [c1, c2, c3, hf]
  by_cases h34 : j = 3 ∨ j = 4
  · rw [if_pos h34, if_pos ⟨rfl, k1, fun _ => h34.imp v1.2 v2.2⟩]; rfl
  · rw [if_neg h34, if_neg (fun e => h34 ((e.2.2 rfl).imp v1.1 v2.1))]
theorem mkA_size (v : List ByteArray) (hv : ∀ s ∈ v, s.size ≤ 100) (i : Nat) (hi : i < 8) : (mkA v i).size ≤ 1000 := by
  obtain ⟨k1, k2, k3⟩ := ky_ok ⟨i, hi⟩
  have h2 : (rdOf ByteArray.empty v i).size ≤ 100 := by
    by_cases h : i < v.length
    · rw [show rdOf ByteArray.empty v i = v[i] from by simp [rdOf, h]]; exact hv _ (List.getElem_mem h)
    · rw [show rdOf ByteArray.empty v i = ByteArray.empty from by simp [rdOf]; rw [List.getElem?_eq_none (by omega)]; rfl]; decide
  have h3 : (mkA v i).size = (ky i).size + 1 + (rdOf ByteArray.empty v i).size := by
    have e : ∀ s : ByteArray, s.size = s.data.toList.length := fun s => Array.length_toList.symm
    unfold mkA
    rw [e, Go.Joins.data_append, Go.Joins.data_append, List.length_append, List.length_append, ← e, ← e]
    rfl
  simp only at k2
  omega
theorem opsE (L : List ByteArray) (hl : L.length ≤ 40) (hs : ∀ j : Nat, j < L.length → (rdOf ByteArray.empty L j).size ≤ 1000) : Ev (fun k => arg_Operands.f k L) (opsR L L.length 0 []) := by
  obtain ⟨h1, _, _⟩ := ops_at L (by omega) hs L.length 0 (by omega) (by omega) [] (by simp)
  exact Ev.congr (fun k => by unfold arg_Operands.f; rw [if_neg (by omega)]; rfl) h1
theorem rv_size (v : List ByteArray) (hv : ∀ s ∈ v, s.size ≤ 100) (i : Nat) : (rdOf ByteArray.empty v i).size ≤ 100 := by
  by_cases h : i < v.length
  · rw [show rdOf ByteArray.empty v i = v[i] from by simp [rdOf, h]]; exact hv _ (List.getElem_mem h)
  · rw [show rdOf ByteArray.empty v i = ByteArray.empty from by simp [rdOf]; rw [List.getElem?_eq_none (by omega)]; rfl]; decide
theorem ks_size (k : ByteArray) : (k ++ (⟨#[61]⟩ : ByteArray)).size = k.size + 1 := by
  have e : ∀ s : ByteArray, s.size = s.data.toList.length := fun s => Array.length_toList.symm
  rw [e, Go.Joins.data_append, List.length_append, ← e]; rfl
theorem kl0 (v : List ByteArray) (hv : ∀ s ∈ v, s.size ≤ 100) (hlen : v.length ≤ 20) (a1 : Int) (n : Nat) (hn : n = min v.length 8) (h : Ev (fun k => salvorlaw9_ArgKeys.j2 k v a1 keys8 (As v n)) true) : ∀ d i : Nat, d = n - i → i ≤ n → Ev (fun k => salvorlaw9_ArgKeys.l0 k v a1 keys8 (As v i) i) true
  | 0, i, hd, hi => by
    obtain rfl : i = n := by omega
    obtain ⟨K, hK⟩ := h
    refine ⟨K + 1, fun k hk => ?_⟩
    obtain ⟨k, rfl⟩ : ∃ k', k = k' + 1 := ⟨k - 1, by omega⟩
    show salvorlaw9_ArgKeys.l0 (k + 1) v a1 keys8 (As v i) i = _
    rw [salvorlaw9_ArgKeys.l0]
    have h8 : (keys8.length : Int) = 8 := rfl
    by_cases e1 : (i : Int) < (v.length : Int)
    · rw [if_pos e1, if_neg (by rw [h8]; omega)]; exact hK k (by omega)
    · rw [if_neg e1]; exact hK k (by omega)
  | d + 1, i, hd, hi => by
    obtain ⟨K, hK⟩ := kl0 v hv hlen a1 n hn h d (i + 1) (by omega) (by omega)
    refine ⟨K + 1, fun k hk => ?_⟩
    obtain ⟨k, rfl⟩ : ∃ k', k = k' + 1 := ⟨k - 1, by omega⟩
    show salvorlaw9_ArgKeys.l0 (k + 1) v a1 keys8 (As v i) i = _
    have h8 : (keys8.length : Int) = 8 := rfl
    have e1 : (i : Int) < (v.length : Int) := by omega
    have e2 : (i : Int) < (keys8.length : Int) := by rw [h8]; omega
    have e3 : (0 : Int) ≤ (i : Int) := by omega
    obtain ⟨k1, k2, k3⟩ := ky_ok ⟨i, by omega⟩
    have hrv := rv_size v hv i
    have hks := ks_size (ky i)
    simp only at k2
    have e4 : (rdOf ByteArray.empty keys8 i).size + 1 ≤ 9223372036854775807 := by show (ky i).size + 1 ≤ _; omega
    have e5 : ((rdOf ByteArray.empty keys8 i) ++ (⟨#[61]⟩ : ByteArray)).size + (rdOf ByteArray.empty v i).size ≤ 9223372036854775807 := by show (ky i ++ (⟨#[61]⟩ : ByteArray)).size + _ ≤ _; omega
    have e6 : (As v i).length < 8796093022208 := by rw [As_len]; omega
    rw [salvorlaw9_ArgKeys.l0, if_pos e1, if_pos e2, if_pos e3, if_pos e4, if_pos e5, if_pos e6, show wrap64 ((i : Int) + 1) = ((i + 1 : Nat) : Int) from by unfold wrap64; omega]
    have hs := As_succ v i
    have hg : salvorlaw9_ArgKeys.l0 k v a1 keys8 (As v (i + 1)) ((i + 1 : Nat) : Int) = some true := hK k (by omega)
    rw [hs] at hg
    exact hg
theorem kl1 (v : List ByteArray) (hv : ∀ s ∈ v, s.size ≤ 100) (a1 : Int) (ha : 0 ≤ a1 ∧ a1 ≤ 255) (n : Nat) (hn : n ≤ 8) (hnv : n ≤ v.length) : ∀ d i : Nat, d = n - i → i ≤ n → Ev (fun k => salvorlaw9_ArgKeys.l1 k v a1 keys8 (As v n) (Os v n) i) true
  | 0, i, hd, hi => by
    obtain rfl : i = n := by omega
    obtain ⟨K, hK⟩ := runs_ev
    have hK' : ∀ k, K ≤ k → salvorlaw9_ArgRuns.f k = some true := hK
    have e1 : ¬ (i : Int) < ((Os v i).length : Int) := by rw [Os_len]; omega
    by_cases h0 : i = 0
    · refine ⟨K + 1, fun k hk => ?_⟩
      obtain ⟨k, rfl⟩ : ∃ k', k = k' + 1 := ⟨k - 1, by omega⟩
      show salvorlaw9_ArgKeys.l1 (k + 1) v a1 keys8 (As v i) (Os v i) i = _
      rw [salvorlaw9_ArgKeys.l1, if_neg e1, if_pos (by rw [As_len]; omega), hK' k (by omega)]; rfl
    · obtain ⟨j, hj⟩ : ∃ j : Nat, j = a1.toNat % i := ⟨_, rfl⟩
      have hji : j < i := by rw [hj]; exact Nat.mod_lt _ (by omega)
      have hw : wrap64 a1 = a1 := by unfold wrap64; omega
      have ht : Int.tmod (wrap64 a1) ((As v i).length : Int) = (j : Int) := by
        rw [hw, As_len, hj, Int.tmod_eq_emod_of_nonneg ha.1, Int.natCast_emod, Int.toNat_of_nonneg ha.1]
      have hrd : rdOf ByteArray.empty (As v i) (j : Int) = mkA v j := As_rd v i j hji
      have hOp := opsE (As v i ++ [mkA v j]) (by rw [List.length_append, As_len]; simp; omega) (fun q hq => by
        rw [List.length_append, As_len, List.length_singleton] at hq
        by_cases hqi : q < i
        · rw [show rdOf ByteArray.empty (As v i ++ [mkA v j]) q = mkA v q from by
            have := As_rd v i q hqi
            simpa [rdOf, List.getElem?_append_left (show q < (As v i).length by rw [As_len]; exact hqi)] using this]
          exact mkA_size v hv q (by omega)
        · obtain rfl : q = i := by omega
          rw [show rdOf ByteArray.empty (As v q ++ [mkA v j]) q = mkA v j from by simp [rdOf, As_len]]
          exact mkA_size v hv j (by omega))
      rw [show (As v i ++ [mkA v j]).length = i + 1 from by rw [List.length_append, As_len]; rfl, opsR_two v i j hn hji] at hOp
      obtain ⟨K2, hK2⟩ := hOp
      replace hK2 : ∀ k, K2 ≤ k → arg_Operands.f k (As v i ++ [mkA v j]) = some (if j = 3 ∨ j = 4 then (Os v i ++ [mkO v j], true) else ([], false)) := hK2
      refine ⟨K + K2 + 1, fun k hk => ?_⟩
      obtain ⟨k, rfl⟩ : ∃ k', k = k' + 1 := ⟨k - 1, by omega⟩
      show salvorlaw9_ArgKeys.l1 (k + 1) v a1 keys8 (As v i) (Os v i) i = _
      have e2 : ¬ ((As v i).length : Int) = 0 := by rw [As_len]; omega
      have e3 : (0 : Int) ≤ (j : Int) := by omega
      have e4 : (j : Int) < ((As v i).length : Int) := by rw [As_len]; omega
      have e5 : (As v i).length < 8796093022208 := by rw [As_len]; omega
      have hw2 : wrap64 (((As v i).length : Int) + 1) = ((i + 1 : Nat) : Int) := by rw [As_len]; unfold wrap64; omega
      rw [salvorlaw9_ArgKeys.l1, if_neg e1, if_neg e2]
      simp only [ht]
      rw [if_pos e3, if_pos e4, if_pos e5, hrd, hK2 k (by omega), hw2]
      simp only [Option.bind_some, hK' k (by omega)]
      by_cases h3 : j = 3
      · subst h3
        simp [Os_len]
      · have h3' : ¬ (j : Int) = 3 := by omega
        by_cases h4 : j = 4
        · subst h4
          simp [Os_len]
        · have h34 : ¬ (j = 3 ∨ j = 4) := by omega
          have h4' : ((j : Int) == 4) = false := beq_eq_false_iff_ne.mpr (by omega)
          rw [if_neg h34, if_neg h3', h4']
          simp
  | d + 1, i, hd, hi => by
    obtain ⟨K, hK⟩ := kl1 v hv a1 ha n hn hnv d (i + 1) (by omega) (by omega)
    refine ⟨K + 1, fun k hk => ?_⟩
    obtain ⟨k, rfl⟩ : ∃ k', k = k' + 1 := ⟨k - 1, by omega⟩
    show salvorlaw9_ArgKeys.l1 (k + 1) v a1 keys8 (As v n) (Os v n) i = _
    have h8 : (keys8.length : Int) = 8 := rfl
    have e1 : (i : Int) < ((Os v n).length : Int) := by rw [Os_len]; omega
    have e2 : (0 : Int) ≤ (i : Int) := by omega
    have e3 : (i : Int) < (keys8.length : Int) := by rw [h8]; omega
    have e4 : (i : Int) < (v.length : Int) := by omega
    have hF : arg_Find.f (Os v n) (rdOf ByteArray.empty keys8 i) = some (rdOf ByteArray.empty v i, true) := congrArg some (find_old v n i hn (by omega))
    have hrd := Os_rd v n i (by omega)
    have e5 : ((rd_T31 (Os v n) i).f0).toList = (rdOf ByteArray.empty keys8 i).toList := by rw [hrd]; rfl
    rw [salvorlaw9_ArgKeys.l1, if_pos e1, if_pos e2, if_pos e3, hF]
    simp only [Option.bind_some, if_true]
    rw [if_pos e4, if_pos e5, show wrap64 ((i : Int) + 1) = ((i + 1 : Nat) : Int) from by unfold wrap64; omega]
    exact hK k (by omega)
theorem ArgKeys : ∀ (x0 : List ByteArray) (x1 : Int), (∀ x_ ∈ x0, x_.size ≤ maxLen) → (Lit.int .u8 x1).wf = true → ∃ k, salvorlaw9_ArgKeys.f k x0 x1 = some true := by
  intro v a1 _ hw
  have ha : 0 ≤ a1 ∧ a1 ≤ 255 := by simp only [Lit.wf, Bool.and_eq_true, decide_eq_true_eq] at hw; exact hw
  have hT : Ev (fun k => salvorlaw9_ArgKeys.j0 k v a1 true) true := by
    obtain ⟨K, hK⟩ := runs_ev
    have hK' : ∀ k, K ≤ k → salvorlaw9_ArgRuns.f k = some true := hK
    refine ⟨K + 1, fun k hk => ?_⟩
    obtain ⟨k, rfl⟩ : ∃ k', k = k' + 1 := ⟨k - 1, by omega⟩
    show salvorlaw9_ArgKeys.j0 (k + 1) v a1 true = _
    rw [salvorlaw9_ArgKeys.j0, if_pos rfl, hK' k (by omega)]; rfl
  refine Ev.rounds (g := fun k => salvorlaw9_ArgKeys.f k v a1) ?_
  unfold salvorlaw9_ArgKeys.f
  by_cases hb : (v.length : Int) > 20
  · simp only [if_pos hb]; exact hT
  · simp only [if_neg hb]
    obtain ⟨b, h1, h2⟩ := few_ev v 20 (by omega) (by omega)
    refine Ev.bind h1 ?_
    cases b with
    | false => exact hT
    | true =>
      obtain ⟨h3, h4⟩ := h2 rfl
      obtain ⟨n, hn⟩ : ∃ n, n = min v.length 8 := ⟨_, rfl⟩
      have hl1 := kl1 v h4 a1 ha n (by omega) (by omega) n 0 rfl (Nat.zero_le _)
      have hO := opsE (As v n) (by rw [As_len]; omega) (fun q hq => by
        rw [As_len] at hq
        rw [As_rd v n q hq]
        exact mkA_size v h4 q (by omega))
      rw [As_len, opsR_As v n (by omega)] at hO
      have hj2 : Ev (fun k => salvorlaw9_ArgKeys.j2 k v a1 keys8 (As v n)) true := by
        obtain ⟨K1, hK1⟩ := hl1
        obtain ⟨K2, hK2⟩ := hO
        replace hK2 : ∀ k, K2 ≤ k → arg_Operands.f k (As v n) = some (Os v n, true) := hK2
        refine ⟨K1 + K2 + 2, fun k hk => ?_⟩
        obtain ⟨k, rfl⟩ : ∃ k', k = k' + 2 := ⟨k - 2, by omega⟩
        show salvorlaw9_ArgKeys.j2 (k + 2) v a1 keys8 (As v n) = _
        rw [salvorlaw9_ArgKeys.j2, hK2 (k + 1) (by omega)]
        simp only [Option.bind_some, if_true]
        rw [salvorlaw9_ArgKeys.j3, if_neg (by rw [Os_len, As_len]; simp)]
        exact hK1 k (by omega)
      obtain ⟨K, hK⟩ := kl0 v h4 (by omega) a1 n hn hj2 n 0 rfl (Nat.zero_le _)
      refine ⟨K + 1, fun k hk => ?_⟩
      obtain ⟨k, rfl⟩ : ∃ k', k = k' + 1 := ⟨k - 1, by omega⟩
      show salvorlaw9_ArgKeys.j0 (k + 1) v a1 false = _
      rw [salvorlaw9_ArgKeys.j0, if_neg (by simp)]
      exact hK k (by omega)
end Go.Proofs.YtlginoicaeonhaaDoor.Pure
