/- The plain law of ArgJoined. No program in sight. No conditions. -/
import Derived.Test.YtlginoicaeonhaaDoorPx0
import Derived.Test.YtlginoicaeonhaaDoorPx6
import Derived.Test.YtlginoicaeonhaaDoorPx8
import Derived.Test.YtlginoicaeonhaaDoorPx12
import Derived.Test.YtlginoicaeonhaaDoorPx17
import Derived.Test.YtlginoicaeonhaaDoorPx21
import Derived.Test.YtlginoicaeonhaaDoorPx24
import Derived.Test.YtlginoicaeonhaaDoorArgG
import Derived.Test.YtlginoicaeonhaaDoorPureArgOperands
namespace Go.Proofs.YtlginoicaeonhaaDoor.Pure
open Go.RowKit Go.Proofs.YtlginoicaeonhaaDoorW.PrintWords Go.Proofs.YtlginoicaeonhaaDoorW.PrintLast Go.Proofs.YtlginoicaeonhaaDoor.P
set_option linter.unusedVariables false
set_option linter.unusedSimpArgs false
theorem texts_at (l : List ByteArray) (hl : l.length < 4611686018427387904) : ∀ n i : Nat, l.length - i ≤ n → i ≤ l.length → Ev (fun k => salvorref1_SameTexts.l0 k l l i) true
  | n, i, hn, hi => by
    by_cases hlt : i < l.length
    · cases n with
      | zero => omega
      | succ n =>
        obtain ⟨K, hK⟩ := texts_at l hl n (i + 1) (by omega) (by omega)
        refine ⟨K + 1, fun k hk => ?_⟩
        obtain ⟨k, rfl⟩ : ∃ k', k = k' + 1 := ⟨k - 1, by omega⟩
        show salvorref1_SameTexts.l0 (k + 1) l l i = _
        have e1 : (i : Int) < (l.length : Int) := by omega
        have e2 : (0 : Int) ≤ (i : Int) := by as_aux_lemma => (omega)
        rw [salvorref1_SameTexts.l0, show wrap64 ((i : Int) + 1) = ((i + 1 : Nat) : Int) from by unfold wrap64; omega]
        have hg : salvorref1_SameTexts.l0 k l l ((i + 1 : Nat) : Int) = some true := hK k (by omega)
        simp [e1, e2]
        exact hg
    · refine ⟨1, fun k hk => ?_⟩
      obtain ⟨k, rfl⟩ : ∃ k', k = k' + 1 := ⟨k - 1, by omega⟩
      show salvorref1_SameTexts.l0 (k + 1) l l i = _
      rw [salvorref1_SameTexts.l0, if_neg (by omega)]
theorem texts_ev (l : List ByteArray) (hl : l.length < 4611686018427387904) : Ev (fun k => salvorref1_SameTexts.f k l l) true := by
  refine Ev.congr (fun k => ?_) (texts_at l hl l.length 0 (by omega) (by omega))
  unfold salvorref1_SameTexts.f
  rw [if_pos rfl]; rfl
def oneA (xs : List Int) (i : Nat) : ByteArray := ⟨(45 :: ((xs.take i).map lt)).toArray⟩
def manyA (xs : List Int) (i : Nat) : List ByteArray := (xs.take i).map fun x => (⟨#[45]⟩ : ByteArray) ++ ch x
theorem oneA_size (xs : List Int) (i : Nat) : (oneA xs i).size ≤ i + 1 := by
  show (List.toArray _).size ≤ _
  rw [List.size_toArray, List.length_cons, List.length_map, List.length_take]; omega
theorem manyA_len (xs : List Int) (i : Nat) : (manyA xs i).length ≤ i := by
  unfold manyA; rw [List.length_map, List.length_take]; omega
theorem take_succ' (xs : List Int) (i : Nat) (hi : i < xs.length) : xs.take (i + 1) = xs.take i ++ [xs[i]] := by
  rw [List.take_add_one, List.getElem?_eq_getElem hi]; rfl
theorem oneA_succ (xs : List Int) (i : Nat) (hi : i < xs.length) (h : 0 ≤ xs[i]) : oneA xs (i + 1) = oneA xs i ++ ch xs[i] := by
  apply Go.WideShapes.bytes_inj
  rw [Go.Joins.data_append, ch_lt _ h]
  unfold oneA
  rw [take_succ' xs i hi, List.map_append]
  rfl
theorem manyA_succ (xs : List Int) (i : Nat) (hi : i < xs.length) : manyA xs (i + 1) = manyA xs i ++ [(⟨#[45]⟩ : ByteArray) ++ ch xs[i]] := by
  unfold manyA
  rw [take_succ' xs i hi, List.map_append]
  rfl
theorem find_v (xs : List Int) (hx : ∀ x ∈ xs, 0 ≤ x) (v : ByteArray) : arg_Find.f (OL xs ++ [⟨vv, v⟩]) vv = some (v, true) := by
  have hlen : (OL xs ++ [(⟨vv, v⟩ : S31)]).length = xs.length + 1 := by simp [OL]
  have hr : rd_T31 (OL xs ++ [(⟨vv, v⟩ : S31)]) (xs.length : Int) = ⟨vv, v⟩ := by simp [rd_T31, OL]
  have h := arg_Find.g_hit (OL xs ++ [(⟨vv, v⟩ : S31)]) vv xs.length (by rw [hr]) (OL xs ++ [(⟨vv, v⟩ : S31)]).length (by omega) (fun i h1 h2 => by omega)
  rw [hr] at h
  exact congrArg some h
theorem bind_t {f X Y : Option Bool} (hf : f = some true) (h : X = some true) : (f.bind fun t => if t = true then X else Y) = some true := by subst hf; exact h
theorem jl_end (xs : List Int) (hx : ∀ x ∈ xs, 0 ≤ x) (hxl : xs.length ≤ 10) (v : ByteArray) (hv : ¬ v.toList = []) (hvs : v.size ≤ 50) (rest : List ByteArray) (hrl : rest.length ≤ 10) (hrs : ∀ s ∈ rest, s.size ≤ 100) : Ev (fun k => salvorlaw9_ArgJoined.l0 k xs v rest (oneA xs xs.length) (manyA xs xs.length) xs.length) true := by
  have ht : xs.take xs.length = xs := List.take_length
  have h1s := oneA_size xs xs.length
  have h1d : (oneA xs xs.length).data.toList = 45 :: xs.map lt := by unfold oneA; rw [ht]
  have hm : manyA xs xs.length = xs.map fun x => (⟨#[45]⟩ : ByteArray) ++ ch x := by unfold manyA; rw [ht]
  have hz1 : (oneA xs xs.length ++ (⟨#[118]⟩ : ByteArray)).size = (oneA xs xs.length).size + 1 := by
    have e : ∀ s : ByteArray, s.size = s.data.toList.length := fun s => Array.length_toList.symm
    rw [e, Go.Joins.data_append, List.length_append, ← e]; rfl
  have hz2 : ((oneA xs xs.length ++ (⟨#[118]⟩ : ByteArray)) ++ v).size = (oneA xs xs.length).size + 1 + v.size := by
    have e : ∀ s : ByteArray, s.size = s.data.toList.length := fun s => Array.length_toList.symm
    rw [e, Go.Joins.data_append, List.length_append, ← e, ← e, hz1]
  have d1 : ((oneA xs xs.length ++ (⟨#[118]⟩ : ByteArray)) ++ v).data.toList = 45 :: (xs.map lt ++ 118 :: v.data.toList) := by
    rw [Go.Joins.data_append, Go.Joins.data_append, h1d]; simp
  have d3 : (oneA xs xs.length ++ (⟨#[118]⟩ : ByteArray)).data.toList = 45 :: (xs.map lt ++ [118]) := by
    rw [Go.Joins.data_append, h1d]; simp
  have hmz : ∀ s ∈ manyA xs xs.length, s.size ≤ 1000 := by
    intro s hs
    rw [hm] at hs
    obtain ⟨x, hx1, rfl⟩ := List.mem_map.1 hs
    rw [ch_lt x (hx x hx1)]
    show ByteArray.size _ ≤ 1000
    have e : ∀ s : ByteArray, s.size = s.data.toList.length := fun s => Array.length_toList.symm
    rw [e, Go.Joins.data_append]; simp
  have F1 : arg_Flags.f (⟨#[97, 98, 99, 118, 58]⟩ : ByteArray) (([(oneA xs xs.length ++ (⟨#[118]⟩ : ByteArray)) ++ v, (⟨#[45, 45]⟩ : ByteArray)] : List ByteArray) ++ rest) = some (OL xs ++ [⟨vv, v⟩], rest, true) := by
    as_aux_lemma =>
    refine flags_of _ (by simp; omega) ?_ _ _ ?_
    · intro s hs
      simp only [List.cons_append, List.nil_append, List.mem_cons] at hs
      rcases hs with rfl | rfl | hs
      · rw [hz2]; omega
      · decide
      · have := hrs s hs; omega
    · exact run_joined xs hx _ v hv d1 rest _
  have F3 : arg_Flags.f (⟨#[97, 98, 99, 118, 58]⟩ : ByteArray) (([oneA xs xs.length ++ (⟨#[118]⟩ : ByteArray), v, (⟨#[45, 45]⟩ : ByteArray)] : List ByteArray) ++ rest) = some (OL xs ++ [⟨vv, v⟩], rest, true) := by
    as_aux_lemma =>
    refine flags_of _ (by simp; omega) ?_ _ _ ?_
    · intro s hs
      simp only [List.cons_append, List.nil_append, List.mem_cons] at hs
      rcases hs with rfl | rfl | rfl | hs
      · rw [hz1]; omega
      · omega
      · decide
      · have := hrs s hs; omega
    · exact run_apart xs hx _ v d3 rest [] _
  have F2 : arg_Flags.f (⟨#[97, 98, 99, 118, 58]⟩ : ByteArray) ((manyA xs xs.length ++ ([(⟨#[45, 118]⟩ : ByteArray), v, (⟨#[45, 45]⟩ : ByteArray)] : List ByteArray)) ++ rest) = some (OL xs ++ [⟨vv, v⟩], rest, true) := by
    as_aux_lemma =>
    refine flags_of _ (by have := manyA_len xs xs.length; simp; omega) ?_ _ _ ?_
    · intro s hs
      simp only [List.mem_append, List.mem_cons, List.mem_nil_iff, or_false] at hs
      rcases hs with (hs | rfl | rfl | rfl) | hs
      · exact hmz s hs
      · decide
      · omega
      · decide
      · have := hrs s hs; omega
    · have h := run_many v rest xs hx [] (rest.length + 2)
      rw [hm]
      rw [show ((xs.map fun x => (⟨#[45]⟩ : ByteArray) ++ ch x) ++ ([(⟨#[45, 118]⟩ : ByteArray), v, (⟨#[45, 45]⟩ : ByteArray)] : List ByteArray) ++ rest).length + 1 = rest.length + 2 + 2 + xs.length from by simp; omega]
      rw [List.append_assoc]
      exact h
  have hF := find_v xs hx v
  have hOl : (OL xs ++ [(⟨vv, v⟩ : S31)]).length = xs.length + 1 := by simp [OL]
  obtain ⟨K1, g1⟩ := same_ev (OL xs ++ [(⟨vv, v⟩ : S31)]) (by omega)
  obtain ⟨K2, g2⟩ := texts_ev rest (by omega)
  obtain ⟨K3, g3⟩ := runs_ev
  replace g1 : ∀ k, K1 ≤ k → salvorref1_SameOpts.f k (OL xs ++ [(⟨vv, v⟩ : S31)]) (OL xs ++ [(⟨vv, v⟩ : S31)]) = some true := g1
  replace g2 : ∀ k, K2 ≤ k → salvorref1_SameTexts.f k rest rest = some true := g2
  replace g3 : ∀ k, K3 ≤ k → salvorlaw9_ArgRuns.f k = some true := g3
  refine ⟨K1 + K2 + K3 + 1, fun k hk => ?_⟩
  obtain ⟨k, rfl⟩ : ∃ k', k = k' + 1 := ⟨k - 1, by omega⟩
  have G1 := g1 k (by omega)
  have G2 := g2 k (by omega)
  have G3 := g3 k (by omega)
  clear g1 g2 g3 hk
  show salvorlaw9_ArgJoined.l0 (k + 1) xs v rest (oneA xs xs.length) (manyA xs xs.length) xs.length = _
  have hml := manyA_len xs xs.length
  have e1 : ¬ (xs.length : Int) < (xs.length : Int) := by omega
  have e2 : (oneA xs xs.length).size + 1 ≤ 9223372036854775807 := by as_aux_lemma => (omega)
  have e3 : (oneA xs xs.length ++ (⟨#[118]⟩ : ByteArray)).size + v.size ≤ 9223372036854775807 := by as_aux_lemma => (rw [hz1]; omega)
  have e4 : ([(oneA xs xs.length ++ (⟨#[118]⟩ : ByteArray)) ++ v, (⟨#[45, 45]⟩ : ByteArray)] : List ByteArray).length + rest.length < 8796093022208 := by as_aux_lemma => (simp; omega)
  have e5 : (manyA xs xs.length).length + ([(⟨#[45, 118]⟩ : ByteArray), v, (⟨#[45, 45]⟩ : ByteArray)] : List ByteArray).length < 8796093022208 := by as_aux_lemma => (simp; omega)
  have e6 : (manyA xs xs.length ++ ([(⟨#[45, 118]⟩ : ByteArray), v, (⟨#[45, 45]⟩ : ByteArray)] : List ByteArray)).length + rest.length < 8796093022208 := by as_aux_lemma => (simp; omega)
  have e7 : ([oneA xs xs.length ++ (⟨#[118]⟩ : ByteArray), v, (⟨#[45, 45]⟩ : ByteArray)] : List ByteArray).length + rest.length < 8796093022208 := by as_aux_lemma => (simp; omega)
  have e8 : ((OL xs ++ [(⟨vv, v⟩ : S31)]).length : Int) = wrap64 ((xs.length : Int) + 1) := by as_aux_lemma => (rw [hOl]; unfold wrap64; omega)
  rw [salvorlaw9_ArgJoined.l0, if_neg e1, if_pos e2, if_pos e3]
  (try simp only [Option.bind_some])
  rw [if_pos e4, F1]
  (try simp only [Option.bind_some])
  rw [if_pos e5]
  (try simp only [Option.bind_some])
  rw [if_pos e6, F2]
  (try simp only [Option.bind_some])
  rw [if_pos e7, F3]
  (try simp only [Option.bind_some])
  rw [show arg_Find.f (OL xs ++ [(⟨vv, v⟩ : S31)]) (⟨#[118]⟩ : ByteArray) = some (v, true) from hF]
  (try simp only [Option.bind_some, if_true])
  refine bind_t G1 (bind_t G1 (bind_t G2 (bind_t G2 (bind_t G2 ?_))))
  rw [if_pos e8, G3]
  rfl
theorem jl_round (xs : List Int) (hx : ∀ x ∈ xs, 0 ≤ x) (hxl : xs.length ≤ 10) (v : ByteArray) (hv : ¬ v.toList = []) (hvs : v.size ≤ 50) (rest : List ByteArray) (hrl : rest.length ≤ 10) (hrs : ∀ s ∈ rest, s.size ≤ 100) (i : Nat) (hlt : i < xs.length) (h : Ev (fun k => salvorlaw9_ArgJoined.l0 k xs v rest (oneA xs (i + 1)) (manyA xs (i + 1)) ((i + 1 : Nat) : Int)) true) : Ev (fun k => salvorlaw9_ArgJoined.l0 k xs v rest (oneA xs i) (manyA xs i) i) true := by
  obtain ⟨K, hK⟩ := h
  refine ⟨K + 1, fun k hk => ?_⟩
  obtain ⟨k, rfl⟩ : ∃ k', k = k' + 1 := ⟨k - 1, by omega⟩
  show salvorlaw9_ArgJoined.l0 (k + 1) xs v rest (oneA xs i) (manyA xs i) i = _
  have hrd : rd xs (i : Int) = xs[i] := by simp [rd, hlt]
  have h0 := hx xs[i] (List.getElem_mem hlt)
  obtain ⟨_, t1, t2⟩ := ch_cases xs[i] h0
  have hcs : (ch xs[i]).size = 1 := by rw [ch_lt _ h0]; rfl
  have h1s := oneA_size xs i
  have hml := manyA_len xs i
  have e1 : (i : Int) < (xs.length : Int) := by omega
  have e2 : (0 : Int) ≤ (i : Int) := by as_aux_lemma => (omega)
  have e3 : Int.tmod xs[i] 3 ≤ ((Int.tmod xs[i] 3) + 1) % 256 := by as_aux_lemma => (omega)
  have e4 : ((Int.tmod xs[i] 3) + 1) % 256 ≤ 3 := by as_aux_lemma => (omega)
  have e5 : (oneA xs i).size + ((⟨#[97, 98, 99]⟩ : ByteArray).extract ((Int.tmod xs[i] 3) : Int).toNat ((((Int.tmod xs[i] 3) + 1) % 256) : Int).toNat).size ≤ 9223372036854775807 := by as_aux_lemma => (show _ + (ch xs[i]).size ≤ _; omega)
  have e6 : 1 + ((⟨#[97, 98, 99]⟩ : ByteArray).extract ((Int.tmod xs[i] 3) : Int).toNat ((((Int.tmod xs[i] 3) + 1) % 256) : Int).toNat).size ≤ 9223372036854775807 := by as_aux_lemma => (show _ + (ch xs[i]).size ≤ _; omega)
  have e7 : (manyA xs i).length < 8796093022208 := by as_aux_lemma => (omega)
  rw [salvorlaw9_ArgJoined.l0, hrd, if_pos e1, if_pos e2, if_pos t1, if_pos e3, if_pos e4, if_pos e5, if_pos e6, if_pos e7, show wrap64 ((i : Int) + 1) = ((i + 1 : Nat) : Int) from by unfold wrap64; omega]
  have hg : salvorlaw9_ArgJoined.l0 k xs v rest (oneA xs (i + 1)) (manyA xs (i + 1)) ((i + 1 : Nat) : Int) = some true := hK k (by omega)
  rw [oneA_succ xs i hlt h0, manyA_succ xs i hlt] at hg
  exact hg
theorem jl (xs : List Int) (hx : ∀ x ∈ xs, 0 ≤ x) (hxl : xs.length ≤ 10) (v : ByteArray) (hv : ¬ v.toList = []) (hvs : v.size ≤ 50) (rest : List ByteArray) (hrl : rest.length ≤ 10) (hrs : ∀ s ∈ rest, s.size ≤ 100) : ∀ d i : Nat, d = xs.length - i → i ≤ xs.length → Ev (fun k => salvorlaw9_ArgJoined.l0 k xs v rest (oneA xs i) (manyA xs i) i) true := by
  intro d
  induction d with
  | zero =>
    intro i hd hi
    obtain rfl : i = xs.length := by omega
    exact jl_end xs hx hxl v hv hvs rest hrl hrs
  | succ d ih =>
    intro i hd hi
    exact jl_round xs hx hxl v hv hvs rest hrl hrs i (by omega) (ih (i + 1) (by omega) (by omega))
theorem ArgJoined : ∀ (x0 : List Int) (x1 : ByteArray) (x2 : List ByteArray), (∀ x_ ∈ x0, (Lit.int .u8 x_).wf = true) → x1.size ≤ maxLen → (∀ x_ ∈ x2, x_.size ≤ maxLen) → ∃ k, salvorlaw9_ArgJoined.f k x0 x1 x2 = some true := by
  intro xs v rest hw _ _
  have hx : ∀ x ∈ xs, 0 ≤ x := fun x h => by have h2 := hw x h; simp only [Lit.wf, Bool.and_eq_true, decide_eq_true_eq] at h2; exact h2.1
  have hT : Ev (fun k => salvorlaw9_ArgJoined.j0 k xs v rest true) true := by
    obtain ⟨K, hK⟩ := runs_ev
    have hK' : ∀ k, K ≤ k → salvorlaw9_ArgRuns.f k = some true := hK
    refine ⟨K + 1, fun k hk => ?_⟩
    obtain ⟨k, rfl⟩ : ∃ k', k = k' + 1 := ⟨k - 1, by omega⟩
    show salvorlaw9_ArgJoined.j0 (k + 1) xs v rest true = _
    rw [salvorlaw9_ArgJoined.j0, if_pos rfl, hK' k (by omega)]; rfl
  refine Ev.rounds (g := fun k => salvorlaw9_ArgJoined.f k xs v rest) ?_
  unfold salvorlaw9_ArgJoined.f
  by_cases h1 : (xs.length : Int) > 10
  · simp only [if_pos h1]; exact hT
  · simp only [if_neg h1]
    by_cases h2 : (v.size : Int) > 50
    · simp only [if_pos h2]; exact hT
    · simp only [if_neg h2]
      obtain ⟨b, h3, h4⟩ := few_ev rest 10 (by omega) (by omega)
      refine Ev.bind h3 ?_
      cases b with
      | false => exact hT
      | true =>
        obtain ⟨h5, h6⟩ := h4 rfl
        simp only [if_true]
        by_cases hv : v.toList = []
        · rw [beq_iff_eq.mpr hv]; exact hT
        · rw [beq_eq_false_iff_ne.mpr hv]
          obtain ⟨K, hK⟩ := jl xs hx (by omega) v hv (by omega) rest (by omega) h6 xs.length 0 rfl (Nat.zero_le _)
          refine ⟨K + 1, fun k hk => ?_⟩
          obtain ⟨k, rfl⟩ : ∃ k', k = k' + 1 := ⟨k - 1, by omega⟩
          show salvorlaw9_ArgJoined.j0 (k + 1) xs v rest false = _
          rw [salvorlaw9_ArgJoined.j0, if_neg (by simp)]
          exact hK k (by omega)
end Go.Proofs.YtlginoicaeonhaaDoor.Pure
