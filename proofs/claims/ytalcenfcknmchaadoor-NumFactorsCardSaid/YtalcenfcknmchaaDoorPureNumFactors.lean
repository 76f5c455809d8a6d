/- The pure statement of NumFactors: a text of parts is the product of its numbers and suffixes. No conditions. -/
import Derived.Test.YtalcenfcknmchaaDoorPx0
import Derived.Test.YtalcenfcknmchaaDoorPx2
import Derived.Test.YtalcenfcknmchaaDoorPx8
import Derived.Test.YtalcenfcknmchaaDoorPx12
import Derived.Test.YtalcenfcknmchaaDoorPx13
import Derived.Test.YtalcenfcknmchaaDoorPureNumBack
namespace Go.Proofs.YtalcenfcknmchaaDoor.Pure
open Go.RowKit Go.Proofs.YtalcenfcknmchaaDoorW.PrintWords Go.Proofs.YtalcenfcknmchaaDoorW.PrintLast Go.Proofs.YtalcenfcknmchaaDoor.P Go.Proofs.YtalcenfcknmchaaDoor.Num
set_option linter.unusedVariables false
set_option linter.unusedSimpArgs false
def sfx (k : Nat) : List UInt8 := [[], [99], [119], [98], [107, 66], [107], [75], [77, 66], [77], [71, 66], [71]].getD k []
def tms (k : Nat) : Nat := [1, 1, 2, 512, 1000, 1024, 1024, 1000000, 1048576, 1000000000, 1073741824].getD k 1
def TX : List ByteArray := [(⟨#[]⟩ : ByteArray), (⟨#[99]⟩ : ByteArray), (⟨#[119]⟩ : ByteArray), (⟨#[98]⟩ : ByteArray), (⟨#[107, 66]⟩ : ByteArray), (⟨#[107]⟩ : ByteArray), (⟨#[75]⟩ : ByteArray), (⟨#[77, 66]⟩ : ByteArray), (⟨#[77]⟩ : ByteArray), (⟨#[71, 66]⟩ : ByteArray), (⟨#[71]⟩ : ByteArray)]
def TM : List Int := [1, 1, 2, 512, 1000, 1024, 1024, 1000000, 1048576, 1000000000, 1073741824]
theorem sfx_all : ∀ k : Fin 11, rdOf ByteArray.empty TX ((k : Nat) : Int) = ⟨(sfx k).toArray⟩ ∧ rd TM ((k : Nat) : Int) = ((tms k : Nat) : Int) ∧ tm (sfx k) = some (tms k) ∧ (sfx k).takeWhile isD = [] ∧ (sfx k).dropWhile isD = sfx k ∧ (∀ b ∈ sfx k, b ≠ 120) ∧ 1 ≤ tms k ∧ tms k ≤ 1073741824 ∧ (sfx k).length ≤ 2 := by decide +kernel
/-- One part's text. -/
def pc (n k : Nat) : List UInt8 := Lib.decDigits n ++ sfx k
theorem pc_part (n k : Nat) (hn : n ≤ 65535) (hk : k < 11) : partL (pc n k) = some (n * tms k) ∧ (∀ b ∈ pc n k, b ≠ 120) ∧ (pc n k).length ≤ 7 := by
  obtain ⟨h1, h2, h3, h4, h5, h6, h7, h8, h9⟩ := sfx_all ⟨k, hk⟩
  replace h9 : (sfx k).length ≤ 2 := h9
  replace h8 : tms k ≤ 1073741824 := h8
  have hd : dgN 10 19 (Lib.decDigits n) = some n := by rw [dgN_dec n (by omega), if_pos (by unfold MX; omega)]
  have hl := dec_len 4 n (by omega)
  have hm : n * tms k ≤ 65535 * 1073741824 := Nat.mul_le_mul hn h8
  refine ⟨?_, ?_, by unfold pc; rw [List.length_append]; omega⟩
  · unfold pc
    rw [partL_sfx _ _ (dec_isD n) h4 h5, hd, h3]
    simp only
    rw [mulL_two, if_pos (by unfold MX; omega)]
  · intro b hb
    rcases List.mem_append.1 hb with hb | hb
    · exact (isD_ne b (dec_isD n b hb)).1
    · exact h6 b hb
/-- The texts, the factors and the products of pairs of a number and a suffix. -/
def tx (l : List (Nat × Nat)) : List (List UInt8) := l.map fun x => pc x.1 x.2
def fl (l : List (Nat × Nat)) : List Nat := l.flatMap fun x => [x.1, tms x.2]
def pr (l : List (Nat × Nat)) : List Nat := l.map fun x => x.1 * tms x.2
theorem parts_tx : ∀ (l : List (Nat × Nat)), (∀ x ∈ l, x.1 ≤ 65535 ∧ x.2 < 11) → partsL (tx l) = some (pr l)
  | [], _ => rfl
  | x :: r, h => by
    obtain ⟨h1, h2⟩ := h x List.mem_cons_self
    show partsL (pc x.1 x.2 :: tx r) = _
    rw [partsL, (pc_part x.1 x.2 h1 h2).1, parts_tx r (fun y hy => h y (List.mem_cons_of_mem _ hy))]
    rfl
theorem prod_same : ∀ (l : List (Nat × Nat)), prod (pr l) = prod (fl l)
  | [] => rfl
  | x :: r => by
    show x.1 * tms x.2 * prod (pr r) = prod ([x.1, tms x.2] ++ fl r)
    rw [prod_append, prod_same r]
    show _ = x.1 * (tms x.2 * 1) * _
    rw [Nat.mul_one]
theorem zero_same (l : List (Nat × Nat)) (h : ∀ x ∈ l, x.1 ≤ 65535 ∧ x.2 < 11) : 0 ∈ pr l ↔ 0 ∈ fl l := by
  unfold pr fl
  simp only [List.mem_map, List.mem_flatMap, List.mem_cons, List.mem_nil_iff, or_false]
  constructor
  · rintro ⟨x, hx, e⟩
    rcases Nat.mul_eq_zero.1 e with e | e
    · exact ⟨x, hx, .inl e.symm⟩
    · exact ⟨x, hx, .inr e.symm⟩
  · rintro ⟨x, hx, e | e⟩
    · exact ⟨x, hx, by rw [← e, Nat.zero_mul]⟩
    · exact ⟨x, hx, by rw [← e, Nat.mul_zero]⟩
theorem mul_same (l : List (Nat × Nat)) (h : ∀ x ∈ l, x.1 ≤ 65535 ∧ x.2 < 11) : mulL (pr l) = mulL (fl l) := by
  by_cases c : 0 ∈ pr l
  · unfold mulL; rw [if_pos c, if_pos ((zero_same l h).1 c)]
  · rw [mulL_eq _ c, mulL_eq _ (fun e => c ((zero_same l h).2 e)), prod_same]
theorem get_tx (l : List (Nat × Nat)) (hne : l ≠ []) (h : ∀ x ∈ l, x.1 ≤ 65535 ∧ x.2 < 11) : getL (jn 120 (tx l)) = mulL (fl l) := by
  unfold getL
  rw [pieces_jn 120 (tx l) (by unfold tx; simpa using hne) (fun p hp => by
    obtain ⟨x, hx, rfl⟩ := List.mem_map.1 hp
    exact (pc_part x.1 x.2 (h x hx).1 (h x hx).2).2.1), parts_tx l h]
  exact mul_same l h
theorem jn_snoc (c : UInt8) (p : List UInt8) : ∀ l : List (List UInt8), l ≠ [] → jn c (l ++ [p]) = jn c l ++ c :: p
  | [], h => absurd rfl h
  | [x], _ => rfl
  | x :: y :: r, _ => by
    have := jn_snoc c p (y :: r) (by simp)
    show x ++ c :: jn c ((y :: r) ++ [p]) = x ++ c :: jn c (y :: r) ++ c :: p
    rw [this, List.append_assoc]; rfl
theorem jn_len (l : List (Nat × Nat)) (h : ∀ x ∈ l, x.1 ≤ 65535 ∧ x.2 < 11) : (jn 120 (tx l)).length ≤ 8 * l.length := by
  induction l with
  | nil => simp [tx, jn]
  | cons x r ih =>
    have h1 := (pc_part x.1 x.2 (h x List.mem_cons_self).1 (h x List.mem_cons_self).2).2.2
    have h2 := ih (fun y hy => h y (List.mem_cons_of_mem _ hy))
    cases r with
    | nil => show (pc x.1 x.2).length ≤ _; simp; omega
    | cons y r =>
      show (pc x.1 x.2 ++ 120 :: jn 120 (tx (y :: r))).length ≤ _
      rw [List.length_append, List.length_cons]
      simp only [List.length_cons] at h2 ⊢
      omega
theorem fl_le (l : List (Nat × Nat)) (h : ∀ x ∈ l, x.1 ≤ 65535 ∧ x.2 < 11) : ∀ y ∈ fl l, y ≤ MX := by
  intro y hy
  obtain ⟨x, hx, hy⟩ := List.mem_flatMap.1 hy
  obtain ⟨h1, h2⟩ := h x hx
  have := (sfx_all ⟨x.2, h2⟩).2.2.2.2.2.2.2.1
  simp only at this
  simp only [List.mem_cons, List.mem_nil_iff, or_false] at hy
  unfold MX
  rcases hy with rfl | rfl <;> omega
theorem fl_len (l : List (Nat × Nat)) : (fl l).length = 2 * l.length := by
  induction l with
  | nil => rfl
  | cons x r ih => show (fl r).length + 1 + 1 = _; rw [List.length_cons, ih]; omega
def pairs (x0 x1 : List Int) (i : Nat) : List (Nat × Nat) := (List.range i).map fun (j : Nat) => ((rd x0 (j : Int)).toNat, (rd x1 (j : Int)).toNat % 11)
theorem pairs_succ (x0 x1 : List Int) (i : Nat) : pairs x0 x1 (i + 1) = pairs x0 x1 i ++ [((rd x0 (i : Int)).toNat, (rd x1 (i : Int)).toNat % 11)] := by
  unfold pairs; rw [List.range_succ, List.map_append]; rfl
theorem pairs_len (x0 x1 : List Int) (i : Nat) : (pairs x0 x1 i).length = i := by unfold pairs; simp
theorem sz3 (a b : ByteArray) (m n : Nat) (ha : a.size ≤ m) (hb : b.size ≤ n) (h : m + n ≤ 9223372036854775807) : a.size + b.size ≤ 9223372036854775807 := by omega
theorem app_size (a b : ByteArray) : (a ++ b).size = a.size + b.size := ByteArray.size_append
theorem fac_step (k : Nat) (x0 x1 : List Int) (s : ByteArray) (f : List Int) (i n q : Nat) (hs : s.size ≤ 1000) (hf : f.length ≤ 1000) (hi : i < x0.length) (hi1 : i < x1.length) (hi2 : i < 100)
    (hn : rd x0 (i : Int) = (n : Int)) (hq : rd x1 (i : Int) = (q : Int)) (hn2 : n ≤ 65535) (hq2 : q ≤ 255) :
    salvorlaw2_NumFactors.l0 (k + 1) x0 x1 TX TM s f (i : Int) = salvorlaw2_NumFactors.l0 k x0 x1 TX TM (((if 0 < i then s ++ (⟨#[120]⟩ : ByteArray) else s) ++ (⟨(Lib.decDigits n).toArray⟩ : ByteArray)) ++ (⟨(sfx (q % 11)).toArray⟩ : ByteArray)) (f ++ [(n : Int), ((tms (q % 11) : Nat) : Int)]) ((i + 1 : Nat) : Int) := by
  have f1 : (i : Int) < (x0.length : Int) := by omega
  have f2 : (0 : Int) ≤ (i : Int) := by omega
  have f3 : (i : Int) < (x1.length : Int) := by omega
  have w4 : i < 4611686018427387904 := by omega
  have w5 : n ≤ 4611686018427387904 := by omega
  have w6 : q ≤ 4611686018427387904 := by omega
  have hk : q % 11 < 11 := Nat.mod_lt _ (by omega)
  have hmod : Int.tmod (q : Int) 11 = ((q % 11 : Nat) : Int) := by rw [Int.tmod_eq_emod_of_nonneg (by omega)]; omega
  have g1 : (0 : Int) ≤ ((q % 11 : Nat) : Int) := by omega
  have g2 : ((q % 11 : Nat) : Int) < 11 := by omega
  have g3 : ¬ (11 : Int) = 0 := by omega
  have hdec := itoa_f (n : Int) (by omega) (by omega)
  have hit : Lib.itoa (n : Int) = Lib.decDigits n := by unfold Lib.itoa; rw [if_neg (by omega), Int.toNat_natCast]
  rw [hit] at hdec
  have hdl := dec_len 4 n (by omega)
  have hd2 : (⟨(Lib.decDigits n).toArray⟩ : ByteArray).size ≤ 10 := by rw [size_mk]; omega
  have hTX : (TX.length : Int) = 11 := rfl
  have hTM : (TM.length : Int) = 11 := rfl
  obtain ⟨s1, s2, s3, s4, s5, s6, s7, s8, s9⟩ := sfx_all ⟨q % 11, hk⟩
  replace s1 : rdOf ByteArray.empty TX ((q % 11 : Nat) : Int) = ⟨(sfx (q % 11)).toArray⟩ := s1
  replace s2 : rd TM ((q % 11 : Nat) : Int) = ((tms (q % 11) : Nat) : Int) := s2
  have hx2 : (⟨(sfx (q % 11)).toArray⟩ : ByteArray).size ≤ 10 := by rw [size_mk]; exact Nat.le_trans s9 (by decide)
  clear s3 s4 s5 s6 s7 s8 s9
  generalize (⟨(sfx (q % 11)).toArray⟩ : ByteArray) = X at *
  generalize ((tms (q % 11) : Nat) : Int) = Y at *
  generalize (⟨(Lib.decDigits n).toArray⟩ : ByteArray) = D at *
  have hfl : f.length + [(n : Int), Y].length < 17592186044416 := by show f.length + 2 < _; omega
  have a1 : (s ++ (⟨#[120]⟩ : ByteArray)).size = s.size + 1 := app_size _ _
  have c1 : s.size + 1 ≤ 9223372036854775807 := Nat.le_trans (Nat.add_le_add_right hs 1) (by decide)
  have c2 : (s ++ (⟨#[120]⟩ : ByteArray)).size + D.size ≤ 9223372036854775807 := by rw [a1]; exact Nat.le_trans (Nat.add_le_add (Nat.add_le_add_right hs 1) hd2) (by decide)
  have c3 : ((s ++ (⟨#[120]⟩ : ByteArray)) ++ D).size + X.size ≤ 9223372036854775807 := by rw [app_size, a1]; exact Nat.le_trans (Nat.add_le_add (Nat.add_le_add (Nat.add_le_add_right hs 1) hd2) hx2) (by decide)
  have c4 : s.size + D.size ≤ 9223372036854775807 := Nat.le_trans (Nat.add_le_add hs hd2) (by decide)
  have c5 : (s ++ D).size + X.size ≤ 9223372036854775807 := by rw [app_size]; exact Nat.le_trans (Nat.add_le_add (Nat.add_le_add hs hd2) hx2) (by decide)
  rw [salvorlaw2_NumFactors.l0, if_pos f1, if_pos f2, if_pos f3, hTX, hTM, if_neg g3, hn, hq, wrap_nat n w5, wrap_nat q w6, hdec, hmod, s1, s2, wrap_succ i w4]
  by_cases hi0 : 0 < i
  · have f7 : (i : Int) > 0 := Int.natCast_pos.2 hi0
    rw [if_pos f7, if_pos c1, if_pos hi0]
    simp only [Option.bind_some, if_pos c2, if_pos c3, if_pos g1, if_pos g2, if_pos hfl]
  · have f7 : ¬ (i : Int) > 0 := fun h => hi0 (Int.natCast_pos.1 h)
    rw [if_neg f7, if_neg hi0]
    simp only [Option.bind_some, if_pos c4, if_pos c5, if_pos g1, if_pos g2, if_pos hfl]
theorem text_step (x0 x1 : List Int) (i n q : Nat) :
    ((if 0 < i then (⟨(jn 120 (tx (pairs x0 x1 i))).toArray⟩ : ByteArray) ++ (⟨#[120]⟩ : ByteArray) else ⟨(jn 120 (tx (pairs x0 x1 i))).toArray⟩) ++ (⟨(Lib.decDigits n).toArray⟩ : ByteArray)) ++ (⟨(sfx q).toArray⟩ : ByteArray) = ⟨(jn 120 (tx (pairs x0 x1 i) ++ [pc n q])).toArray⟩ := by
  apply Go.WideShapes.bytes_inj
  by_cases hi0 : 0 < i
  · have hne : tx (pairs x0 x1 i) ≠ [] := by
      intro e
      have := congrArg List.length e
      unfold tx at this
      rw [List.length_map, pairs_len] at this
      simp at this; omega
    rw [if_pos hi0, jn_snoc 120 (pc n q) (tx (pairs x0 x1 i)) hne, Go.Joins.data_append, Go.Joins.data_append, Go.Joins.data_append]
    simp [pc]
  · obtain rfl : i = 0 := by omega
    rw [if_neg hi0, Go.Joins.data_append, Go.Joins.data_append]
    have e : jn 120 (tx (pairs x0 x1 0) ++ [pc n q]) = pc n q := rfl
    have e2 : jn 120 (tx (pairs x0 x1 0)) = [] := rfl
    rw [e, e2]
    simp [pc]
theorem fac_loop (x0 x1 : List Int) (h0 : ∀ x ∈ x0, 0 ≤ x ∧ x ≤ 65535) (h1 : ∀ x ∈ x1, 0 ≤ x ∧ x ≤ 255) (hl : 1 ≤ x0.length ∧ x0.length ≤ 12) (hl1 : x0.length ≤ x1.length) : ∀ d i : Nat, x0.length - i = d → i ≤ x0.length →
    Ev (fun k => salvorlaw2_NumFactors.l0 k x0 x1 TX TM ⟨(jn 120 (tx (pairs x0 x1 i))).toArray⟩ (cast (fl (pairs x0 x1 i))) (i : Int)) true := by
  have hruns : Ev (fun k => (salvorlaw2_NumRuns.f k).bind fun t => some t) true := Ev.bind runs_ev (Ev.now _)
  have hr0 : ∀ j, j < x0.length → 0 ≤ rd x0 (j : Int) ∧ rd x0 (j : Int) ≤ 65535 := by
    intro j hj
    have : rd x0 (j : Int) = x0[j] := by unfold rd; simp [hj]
    rw [this]; exact h0 _ (List.getElem_mem hj)
  have hr1 : ∀ j, j < x1.length → 0 ≤ rd x1 (j : Int) ∧ rd x1 (j : Int) ≤ 255 := by
    intro j hj
    have : rd x1 (j : Int) = x1[j] := by unfold rd; simp [hj]
    rw [this]; exact h1 _ (List.getElem_mem hj)
  have hpairs : ∀ i, i ≤ x0.length → ∀ x ∈ pairs x0 x1 i, x.1 ≤ 65535 ∧ x.2 < 11 := by
    intro i hi x hx
    obtain ⟨j, hj, rfl⟩ := List.mem_map.1 hx
    have hj2 : j < i := List.mem_range.1 hj
    have := hr0 j (by omega)
    exact ⟨by show (rd x0 (j : Int)).toNat ≤ _; omega, Nat.mod_lt _ (by omega)⟩
  intro d
  induction d with
  | zero =>
    intro i hd hi
    obtain rfl : i = x0.length := by omega
    have hp := hpairs x0.length (Nat.le_refl _)
    have hlen := jn_len _ hp
    rw [pairs_len] at hlen
    have hget := get_ev ⟨(jn 120 (tx (pairs x0 x1 x0.length))).toArray⟩ (by rw [size_mk]; omega)
    rw [data_mk, get_tx _ (by intro e; have := pairs_len x0 x1 x0.length; rw [e] at this; simp at this; omega) hp] at hget
    have hmul := mul_ev (fl (pairs x0 x1 x0.length)) (fl_le _ hp) (by rw [fl_len, pairs_len]; omega)
    refine Ev.step (f := fun k => (num_Get.f k ⟨(jn 120 (tx (pairs x0 x1 x0.length))).toArray⟩).bind fun bt173 => ((off_Mul.f k (cast (fl (pairs x0 x1 x0.length)))).bind fun bt175 => (if bt173.1 = bt175.1 then (if (bt173.2 == bt175.2) = true then ((salvorlaw2_NumRuns.f k).bind fun t177 => (some t177)) else (some false)) else (some false)))) (fun k => ?_) ?_
    · rw [salvorlaw2_NumFactors.l0, if_neg (by omega)]
    · refine Ev.bind hget (Ev.bind hmul ?_)
      simp only [if_true, beq_self_eq_true]
      exact hruns
  | succ d ih =>
    intro i hd hi
    have hlt : i < x0.length := by omega
    have hlt1 : i < x1.length := by omega
    have next := ih (i + 1) (by omega) (by omega)
    obtain ⟨a0, a1⟩ := hr0 i hlt
    obtain ⟨b0, b1⟩ := hr1 i hlt1
    have hlen := jn_len _ (hpairs i hi)
    rw [pairs_len] at hlen
    obtain ⟨n, hn⟩ : ∃ n : Nat, rd x0 (i : Int) = (n : Int) := ⟨(rd x0 (i : Int)).toNat, by omega⟩
    obtain ⟨q, hq⟩ : ∃ q : Nat, rd x1 (i : Int) = (q : Int) := ⟨(rd x1 (i : Int)).toNat, by omega⟩
    rw [pairs_succ, hn, hq] at next
    rw [hn] at a1
    rw [hq] at b1
    simp only [Int.toNat_natCast] at next
    have hcast : cast (fl (pairs x0 x1 i)) ++ [(n : Int), ((tms (q % 11) : Nat) : Int)] = cast (fl (pairs x0 x1 i ++ [(n, q % 11)])) := by
      unfold cast fl
      rw [List.flatMap_append, List.map_append]; rfl
    have htx : tx (pairs x0 x1 i ++ [(n, q % 11)]) = tx (pairs x0 x1 i) ++ [pc n (q % 11)] := by unfold tx; rw [List.map_append]; rfl
    rw [htx, ← hcast, ← text_step] at next
    exact Ev.step (fun k => fac_step k x0 x1 _ _ i n q (by rw [size_mk]; omega) (by rw [cast_len, fl_len, pairs_len]; omega) hlt hlt1 (by omega) hn hq (by omega) (by omega)) next
theorem NumFactors : ∀ (x0 : List Int) (x1 : List Int), (∀ x_ ∈ x0, (Lit.int .u16 x_).wf = true) → (∀ x_ ∈ x1, (Lit.int .u8 x_).wf = true) → ∃ k, salvorlaw2_NumFactors.f k x0 x1 = some true := by
  intro x0 x1 h0 h1
  have h0' : ∀ x ∈ x0, 0 ≤ x ∧ x ≤ 65535 := fun x hx => by
    have hn := h0 x hx
    simp only [Lit.wf, Bool.and_eq_true, decide_eq_true_eq] at hn
    simpa [IntKind.min, IntKind.max, IntKind.signed, IntKind.bits] using hn
  have h1' : ∀ x ∈ x1, 0 ≤ x ∧ x ≤ 255 := fun x hx => by
    have hn := h1 x hx
    simp only [Lit.wf, Bool.and_eq_true, decide_eq_true_eq] at hn
    simpa [IntKind.min, IntKind.max, IntKind.signed, IntKind.bits] using hn
  have hruns : Ev (fun k => (salvorlaw2_NumRuns.f k).bind fun t => some t) true := Ev.bind runs_ev (Ev.now _)
  have no : Ev (fun k => salvorlaw2_NumFactors.j0 k x0 x1 true) true := Ev.step (f := fun k => (salvorlaw2_NumRuns.f k).bind fun t => some t) (fun k => by rw [salvorlaw2_NumFactors.j0, if_pos rfl]) hruns
  refine Ev.rounds (g := fun k => salvorlaw2_NumFactors.f k x0 x1) ?_
  unfold salvorlaw2_NumFactors.f
  by_cases c1 : (x0.length : Int) < 1
  · simp only [if_pos c1]; exact no
  · by_cases c2 : (x0.length : Int) > 12
    · simp only [if_neg c1, if_pos c2]; exact no
    · by_cases c3 : (x1.length : Int) < (x0.length : Int)
      · simp only [if_neg c1, if_neg c2, decide_eq_true c3]; exact no
      · simp only [if_neg c1, if_neg c2, decide_eq_false c3]
        have := fac_loop x0 x1 h0' h1' (by omega) (by omega) x0.length 0 (by omega) (by omega)
        refine Ev.step (f := fun k => salvorlaw2_NumFactors.l0 k x0 x1 TX TM (⟨#[]⟩ : ByteArray) ([] : List Int) 0) (fun k => ?_) this
        rw [salvorlaw2_NumFactors.j0, if_neg (by simp)]
        rfl
end Go.Proofs.YtalcenfcknmchaaDoor.Pure
