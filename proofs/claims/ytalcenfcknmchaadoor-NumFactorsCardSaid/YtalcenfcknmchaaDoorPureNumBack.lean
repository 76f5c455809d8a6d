/- The pure statement of NumBack: what is written is read again. No conditions. -/
import Derived.Test.YtalcenfcknmchaaDoorPx0
import Derived.Test.YtalcenfcknmchaaDoorPx1
import Derived.Test.YtalcenfcknmchaaDoorPx8
import Derived.Test.YtalcenfcknmchaaDoorPx12
import Derived.Test.YtalcenfcknmchaaDoorPx24
import Derived.Test.YtalcenfcknmchaaDoorNumY
import Derived.Test.YtalcenfcknmchaaDoorPureNumRuns
namespace Go.Proofs.YtalcenfcknmchaaDoor.Pure
open Go.RowKit Go.Proofs.YtalcenfcknmchaaDoorW.PrintWords Go.Proofs.YtalcenfcknmchaaDoorW.PrintLast Go.Proofs.YtalcenfcknmchaaDoor.P Go.Proofs.YtalcenfcknmchaaDoor.Num
set_option linter.unusedVariables false
set_option linter.unusedSimpArgs false
theorem i64_range {n : Int} (hn : (Lit.int .i64 n).wf = true) : -9223372036854775808 ≤ n ∧ n ≤ 9223372036854775807 := by
  simp only [Lit.wf, Bool.and_eq_true, decide_eq_true_eq] at hn
  simpa [IntKind.min, IntKind.max, IntKind.signed, IntKind.bits] using hn
theorem size_mk (l : List UInt8) : (⟨l.toArray⟩ : ByteArray).size = l.length := List.size_toArray
theorem data_mk (l : List UInt8) : (⟨l.toArray⟩ : ByteArray).data.toList = l := by simp
theorem back_dec (n : Int) (h0 : -9223372036854775808 ≤ n) (h1 : n ≤ 9223372036854775807) :
    (if 1 < (⟨(Lib.itoa n).toArray⟩ : ByteArray).size ∧ (⟨(Lib.itoa n).toArray⟩ : ByteArray).data.toList.head? = some 48 then none else dgN 10 19 (⟨(Lib.itoa n).toArray⟩ : ByteArray).data.toList) = (if 0 ≤ n ∧ n ≤ 4611686018427387904 then some n.toNat else none)
    ∧ getL (⟨(Lib.itoa n).toArray⟩ : ByteArray).data.toList = (if 0 ≤ n ∧ n ≤ 4611686018427387904 then some n.toNat else none) := by
  rw [data_mk, size_mk]
  by_cases hn : n < 0
  · have e : Lib.itoa n = 45 :: Lib.decDigits n.natAbs := by unfold Lib.itoa; rw [if_pos hn]
    rw [e, if_neg (by rintro ⟨_, h⟩; simp at h), if_neg (by omega)]
    have hnx : ∀ c ∈ (45 :: Lib.decDigits n.natAbs), c ≠ 120 := by
      intro c hc
      rcases List.mem_cons.1 hc with rfl | hc
      · decide
      · exact (isD_ne c (dec_isD _ c hc)).1
    refine ⟨?_, ?_⟩
    · unfold dgN dg
      split
      · rfl
      · rw [if_neg (by simp)]
        have : nu 10 0 (45 :: Lib.decDigits n.natAbs) = none := by rw [nu, if_neg (by decide)]
        rw [this]
    · unfold getL
      rw [pieces_none 120 _ hnx, partsL]
      have : partL (45 :: Lib.decDigits n.natAbs) = none := by
        unfold partL
        have e1 : (45 :: Lib.decDigits n.natAbs).takeWhile isD = [] := by rw [List.takeWhile_cons]; rfl
        rw [e1]
        rfl
      rw [this]
  · obtain ⟨u, rfl⟩ : ∃ u : Nat, n = u := ⟨n.toNat, by omega⟩
    have e : Lib.itoa (u : Int) = Lib.decDigits u := by unfold Lib.itoa; rw [if_neg hn, Int.toNat_natCast]
    have hd := dgN_dec u (by omega)
    have hv : (if 0 ≤ (u : Int) ∧ (u : Int) ≤ 4611686018427387904 then some (u : Int).toNat else none) = if u ≤ MX then some u else none := by
      rw [Int.toNat_natCast]
      by_cases c : u ≤ MX
      · rw [if_pos c, if_pos ⟨by omega, by unfold MX at c; omega⟩]
      · rw [if_neg c, if_neg (by unfold MX at c; omega)]
    rw [e, hv, ← hd]
    refine ⟨if_neg ?_, getL_digits _ (dec_isD u)⟩
    rintro ⟨h2, h3⟩
    by_cases hz : u = 0
    · subst hz; rw [dec_lt (by omega)] at h2; simp at h2
    · obtain ⟨c, r, hcr, hne⟩ := dec_head u (by omega)
      rw [hcr] at h3
      exact hne (Option.some.inj h3)
theorem NumBack : ∀ (x0 : Int), (Lit.int .i64 x0).wf = true → ∃ k, salvorlaw2_NumBack.f k x0 = some true := by
  intro n hn
  obtain ⟨h0, h1⟩ := i64_range hn
  have hruns : Ev (fun k => (salvorlaw2_NumRuns.f k).bind fun t => some t) true := Ev.bind runs_ev (Ev.now _)
  refine Ev.rounds (g := fun k => salvorlaw2_NumBack.f k n) ?_
  unfold salvorlaw2_NumBack.f
  obtain ⟨b1, b2⟩ := back_dec n h0 h1
  have hlen : (⟨(Lib.itoa n).toArray⟩ : ByteArray).size ≤ 100000 := by
    rw [size_mk]
    unfold Lib.itoa
    split
    · rw [List.length_cons]; have := dec_len 19 n.natAbs (by omega); omega
    · have := dec_len 19 n.toNat (by omega); omega
  have hdec := getDec_f _ hlen
  rw [b1] at hdec
  have hget := get_ev _ hlen
  rw [b2] at hget
  have hhex := hex_f n h1
  have hgh : num_GetHex.f (if n < 0 then ⟨#[]⟩ else ⟨(hexT n.toNat).toArray⟩) = some (val (if 0 ≤ n ∧ n ≤ 4611686018427387904 then some n.toNat else none)) := by
    by_cases c : n < 0
    · rw [if_pos c, if_neg (by omega), getHex_f _ (by decide)]
      rfl
    · rw [if_neg c]
      have hl := hexl_len 15 n.toNat (by omega)
      have hl2 : (hexT n.toNat).length ≤ 100000 := by
        rw [hexT_eq]; simp only [List.length_append, List.length_replicate, upper_len, List.length_cons, List.length_nil]; omega
      rw [getHex_f _ (by rw [size_mk]; exact hl2), data_mk]
      rw [if_pos (by rw [hexT_eq]; rfl), dgN_hex n.toNat (by omega)]
      congr 2
      by_cases d : n.toNat ≤ MX
      · rw [if_pos d, if_pos ⟨by omega, by unfold MX at d; omega⟩]
      · rw [if_neg d, if_neg (by unfold MX at d; omega)]
  rw [itoa_f n h0 h1]
  refine Ev.bind (Ev.now _) ?_
  rw [hdec]
  refine Ev.bind (Ev.now _) ?_
  rw [hhex]
  refine Ev.bind (Ev.now _) ?_
  rw [hgh]
  refine Ev.bind (Ev.now _) ?_
  refine Ev.bind (Ev.now _) ?_
  refine Ev.bind hget ?_
  by_cases c : 0 ≤ n ∧ n ≤ 4611686018427387904
  · have hmay : off_May.f n = some true := by
      unfold off_May.f; rw [if_pos c.1]; exact congrArg some (decide_eq_true c.2)
    have hcn : ((n.toNat : Nat) : Int) = n := by omega
    rw [hmay]
    refine Ev.bind (Ev.now _) ?_
    simp only [if_pos c, val, if_true, hcn]
    refine Ev.bind (Ev.now _) ?_
    have hs : ((if n < 0 then (⟨#[]⟩ : ByteArray) else ⟨(hexT n.toNat).toArray⟩).size : Int) ≥ 10 := by
      rw [if_neg (by omega), size_mk]
      have := hexT_len n.toNat
      omega
    simp only [if_pos hs]
    exact hruns
  · have hmay : off_May.f n = some false := by
      unfold off_May.f
      by_cases d : n ≥ 0
      · rw [if_pos d]; exact congrArg some (decide_eq_false (by omega))
      · rw [if_neg d]
    rw [hmay]
    refine Ev.bind (Ev.now _) ?_
    simp only [if_neg c, val]
    exact hruns
end Go.Proofs.YtalcenfcknmchaaDoor.Pure
