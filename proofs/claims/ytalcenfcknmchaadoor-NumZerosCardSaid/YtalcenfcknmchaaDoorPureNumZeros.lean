/- The pure statement of NumZeros: noughts ahead are taken, but by what is canonical. No conditions. -/
import Derived.Test.YtalcenfcknmchaaDoorPx0
import Derived.Test.YtalcenfcknmchaaDoorPx8
import Derived.Test.YtalcenfcknmchaaDoorPx12
import Derived.Test.YtalcenfcknmchaaDoorPx25
import Derived.Test.YtalcenfcknmchaaDoorPureNumBack
namespace Go.Proofs.YtalcenfcknmchaaDoor.Pure
open Go.RowKit Go.Proofs.YtalcenfcknmchaaDoorW.PrintWords Go.Proofs.YtalcenfcknmchaaDoorW.PrintLast Go.Proofs.YtalcenfcknmchaaDoor.P Go.Proofs.YtalcenfcknmchaaDoor.Num
set_option linter.unusedVariables false
set_option linter.unusedSimpArgs false
def zs (m n : Nat) : ByteArray := ⟨(List.replicate m 48 ++ Lib.decDigits n).toArray⟩
theorem zs_size (m n : Nat) : (zs m n).size = m + (Lib.decDigits n).length := by
  unfold zs; rw [size_mk, List.length_append, List.length_replicate]
theorem zs_data (m n : Nat) : (zs m n).data.toList = List.replicate m 48 ++ Lib.decDigits n := data_mk _
theorem zs_succ (m n : Nat) : (⟨#[48]⟩ : ByteArray) ++ zs m n = zs (m + 1) n := by
  apply Go.WideShapes.bytes_inj
  rw [Go.Joins.data_append, zs_data, zs_data, List.replicate_succ]; rfl
theorem hex_of (t : ByteArray) (ht : t.size ≤ 100) : num_GetHex.f ((⟨#[48, 120]⟩ : ByteArray) ++ t) = some (val (dgN 16 16 t.data.toList)) := by
  have hs : ((⟨#[48, 120]⟩ : ByteArray) ++ t).size = 2 + t.size := by rw [ByteArray.size_append]; rfl
  have hd : ((⟨#[48, 120]⟩ : ByteArray) ++ t).data.toList = 48 :: 120 :: t.data.toList := by rw [Go.Joins.data_append]; rfl
  rw [getHex_f _ (by omega), hd]
  rfl
theorem zeros_end (n m : Nat) (x1 : Int) (hn : n < 4294967296) (hm : 1 ≤ m ∧ m ≤ 6) (hx : ¬ (m : Int) ≤ wrap64 (Int.tmod x1 6)) : Ev (fun k => salvorlaw2_NumZeros.l0 k (n : Int) x1 (zs m n) (m : Int)) true := by
  have hruns : Ev (fun k => (salvorlaw2_NumRuns.f k).bind fun t => some t) true := Ev.bind runs_ev (Ev.now _)
  have hn10 : n < 10 ^ 10 := by omega
  have hl := dec_len 9 n hn10
  have hz := zs_size m n
  have hw : wrap64 (n : Int) = (n : Int) := wrap_nat n (by omega)
  have hget := get_ev (zs m n) (by omega)
  rw [zs_data, getL_digits _ (zeros_isD m _ (dec_isD n)), dgN_zeros m n hn10 hm.2] at hget
  have hgd := getDec_f (zs m n) (by omega)
  have hp := dec_pos n
  rw [if_pos ⟨by omega, by rw [zs_data]; obtain ⟨j, rfl⟩ : ∃ j, m = j + 1 := ⟨m - 1, by omega⟩; rfl⟩] at hgd
  obtain ⟨v, v1, v2⟩ := dgN_zeros16 m n hn10 hm.2
  have hgh := hex_of (zs m n) (by omega)
  rw [zs_data, v1] at hgh
  have hdec := itoa_f (n : Int) (by omega) (by omega)
  have hi : Lib.itoa (n : Int) = Lib.decDigits n := by unfold Lib.itoa; rw [if_neg (by omega), Int.toNat_natCast]
  rw [hi] at hdec
  have hgh2 := hex_of ⟨(Lib.decDigits n).toArray⟩ (by rw [size_mk]; omega)
  rw [data_mk, v2] at hgh2
  refine Ev.step (f := fun k => (num_Get.f k (zs m n)).bind fun bt262 => (some ((0 : Int), false)).bind fun bt264 => ((some (val (some v))).bind fun bt266 => ((some (val (some v))).bind fun bt269 => (if bt262.2 = true then (if bt262.1 = ((n : Int)) then (if bt264.2 = true then (some false) else (if bt266.2 = true then (if bt269.2 = true then (if bt266.1 = bt269.1 then ((salvorlaw2_NumRuns.f k).bind fun t271 => (some t271)) else (some false)) else (some false)) else (some false))) else (some false)) else (some false))))) (fun k => ?_) ?_
  · rw [salvorlaw2_NumZeros.l0, if_neg hx, hgd, hgh, hw, hdec]
    have c1 : 2 + (zs m n).size ≤ 9223372036854775807 := by omega
    have c2 : 2 + (⟨(Lib.decDigits n).toArray⟩ : ByteArray).size ≤ 9223372036854775807 := by rw [size_mk]; omega
    simp only [if_pos c1, Option.bind_some, if_pos c2, hgh2]
    rfl
  · refine Ev.bind hget ?_
    simp only [val, Option.bind_some, if_true]
    exact hruns
theorem zeros_loop (n q : Nat) (x1 : Int) (hn : n < 4294967296) (hq : q ≤ 5) (hx : wrap64 (Int.tmod x1 6) = (q : Int)) : ∀ d i : Nat, q + 1 - i = d → i ≤ q + 1 → Ev (fun k => salvorlaw2_NumZeros.l0 k (n : Int) x1 (zs i n) (i : Int)) true := by
  intro d
  induction d with
  | zero =>
    intro i hd hi
    exact zeros_end n i x1 hn (by omega) (by rw [hx]; omega)
  | succ d ih =>
    intro i hd hi
    have hl := dec_len 9 n (by omega)
    have hz := zs_size i n
    refine Ev.step (f := fun k => salvorlaw2_NumZeros.l0 k (n : Int) x1 (zs (i + 1) n) ((i + 1 : Nat) : Int)) (fun k => ?_) (ih (i + 1) (by omega) (by omega))
    rw [salvorlaw2_NumZeros.l0, if_pos (by rw [hx]; omega), if_pos (by omega), zs_succ, wrap_succ i (by omega)]
theorem NumZeros : ∀ (x0 : Int) (x1 : Int), (Lit.int .u32 x0).wf = true → (Lit.int .u8 x1).wf = true → ∃ k, salvorlaw2_NumZeros.f k x0 x1 = some true := by
  intro n k hn hk
  have hn2 : 0 ≤ n ∧ n ≤ 4294967295 := by
    simp only [Lit.wf, Bool.and_eq_true, decide_eq_true_eq] at hn
    simpa [IntKind.min, IntKind.max, IntKind.signed, IntKind.bits] using hn
  have hk2 : 0 ≤ k ∧ k ≤ 255 := by
    simp only [Lit.wf, Bool.and_eq_true, decide_eq_true_eq] at hk
    simpa [IntKind.min, IntKind.max, IntKind.signed, IntKind.bits] using hk
  obtain ⟨u, rfl⟩ : ∃ u : Nat, n = u := ⟨n.toNat, by omega⟩
  refine Ev.rounds (g := fun j => salvorlaw2_NumZeros.f j (u : Int) k) ?_
  unfold salvorlaw2_NumZeros.f
  have hw : wrap64 (u : Int) = (u : Int) := wrap_nat u (by omega)
  have hi : Lib.itoa (u : Int) = Lib.decDigits u := by unfold Lib.itoa; rw [if_neg (by omega), Int.toNat_natCast]
  rw [hw, itoa_f (u : Int) (by omega) (by omega), hi]
  refine Ev.bind (Ev.now _) ?_
  have hm : Int.tmod k 6 = k % 6 := Int.tmod_eq_emod_of_nonneg hk2.1
  have hq : wrap64 (Int.tmod k 6) = (((k % 6).toNat : Nat) : Int) := by rw [hm]; unfold wrap64; omega
  exact zeros_loop u (k % 6).toNat k (by omega) (by omega) hq _ 0 rfl (by omega)
end Go.Proofs.YtalcenfcknmchaaDoor.Pure
