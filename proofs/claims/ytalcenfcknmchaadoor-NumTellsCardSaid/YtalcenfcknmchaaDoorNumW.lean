/- Plain laws: what the reference's functions of numbers answer. No program in sight. No conditions beyond those that the lemmas name. -/
import Derived.Test.YtalcenfcknmchaaDoorPx0
import Derived.Test.YtalcenfcknmchaaDoorPx16
import Derived.Test.YtalcenfcknmchaaDoorPx17
import Derived.Test.YtalcenfcknmchaaDoorPx19
import Derived.Test.YtalcenfcknmchaaDoorPx20
import Derived.Test.YtalcenfcknmchaaDoorNumV
namespace Go.Proofs.YtalcenfcknmchaaDoor.Pure
open Go.RowKit Go.Proofs.YtalcenfcknmchaaDoorW.PrintWords Go.Proofs.YtalcenfcknmchaaDoorW.PrintLast Go.Proofs.YtalcenfcknmchaaDoor.P Go.Proofs.YtalcenfcknmchaaDoor.Num
set_option linter.unusedVariables false
set_option linter.unusedSimpArgs false
def dr (c : Nat) : Nat := if 48 ≤ c ∧ c ≤ 57 then c - 48 else if 97 ≤ c ∧ c ≤ 102 then c - 97 + 10 else if 65 ≤ c ∧ c ≤ 70 then c - 65 + 10 else 99
theorem dr_dv (c : UInt8) : (dr c.toNat < 16 ↔ dv c.toNat < 16) ∧ (dv c.toNat < 16 → dr c.toNat = dv c.toNat) := by
  have h : ∀ c : Fin 256, (dr c < 16 ↔ dv c < 16) ∧ (dv c < 16 → dr c = dv c) := by decide +kernel
  exact h ⟨c.toNat, c.toNat_lt⟩
theorem num_step (s : ByteArray) (B u i : Nat) (r : Int × Bool) (hB : B ≤ 16) (hi : i < s.size) (hs : s.size ≤ 100000) (c : Nat) (hc : bt s i = (c : Int)) (hc2 : c < 256) (hu : u * B + B ≤ 18446744073709551616)
    (h1 : dr c < B → Ev (fun k => salvorref1_number.l0 k s B ((u * B + dr c : Nat) : Int) ((i + 1 : Nat) : Int)) r) (h2 : ¬ dr c < B → r = (0, false)) :
    Ev (fun k => salvorref1_number.l0 k s B (u : Int) (i : Int)) r := by
  have hw : ∀ d : Nat, d < B → IntKind.u64.wrap (IntKind.u64.wrap ((u : Int) * (B : Int)) + (d : Int)) = ((u * B + d : Nat) : Int) := by
    intro d hd
    have e : (u : Int) * (B : Int) = ((u * B : Nat) : Int) := by rw [Int.natCast_mul]
    have e2 : IntKind.u64.wrap ((u * B : Nat) : Int) = ((u * B : Nat) : Int) := IntWalk.u64_in _ ⟨by omega, by omega⟩
    rw [e, e2, IntWalk.u64_in _ ⟨by omega, by omega⟩]
    omega
  have h01 := wrap_succ i (by omega)
  by_cases c1 : 48 ≤ c ∧ c ≤ 57
  · have hd : dr c = c - 48 := by unfold dr; rw [if_pos c1]
    have e1 : ((c : Int) - 48) % 256 = ((c - 48 : Nat) : Int) := by omega
    refine Ev.step (f := fun k => salvorref1_number.j2 k s B (u : Int) (i : Int) (c : Int) 99 true) (fun k => ?_) ?_
    · rw [salvorref1_number.l0, if_pos (by omega), if_pos (by omega), hc, if_pos (by omega), decide_eq_true (by omega)]
    · by_cases hdB : dr c < B
      · refine Ev.step (f := fun k => salvorref1_number.l0 k s B ((u * B + dr c : Nat) : Int) ((i + 1 : Nat) : Int)) (fun k => ?_) (h1 hdB)
        rw [salvorref1_number.j2, if_pos rfl, e1, if_neg (by omega), hw _ (by omega), h01, hd]
      · rw [h2 hdB]
        refine Ev.step (f := fun _ => some (0, false)) (fun k => ?_) (Ev.now _)
        rw [salvorref1_number.j2, if_pos rfl, e1, if_pos (by omega)]
  · have a2 : Ev (fun k => salvorref1_number.j2 k s B (u : Int) (i : Int) (c : Int) 99 false) r := by
      by_cases c2 : 97 ≤ c ∧ c ≤ 102
      · have hd : dr c = c - 97 + 10 := by unfold dr; rw [if_neg c1, if_pos c2]
        have e1 : ((c : Int) - 97) % 256 + 10 = ((c - 97 + 10 : Nat) : Int) := by omega
        refine Ev.step (f := fun k => salvorref1_number.j3 k s B (u : Int) (i : Int) (c : Int) 99 true) (fun k => ?_) ?_
        · rw [salvorref1_number.j2, if_neg (by simp), if_pos (by omega), decide_eq_true (by omega)]
        · by_cases hdB : dr c < B
          · refine Ev.step (f := fun k => salvorref1_number.l0 k s B ((u * B + dr c : Nat) : Int) ((i + 1 : Nat) : Int)) (fun k => ?_) (h1 hdB)
            rw [salvorref1_number.j3, if_pos rfl, e1, if_neg (by omega), hw _ (by omega), h01, hd]
          · rw [h2 hdB]
            refine Ev.step (f := fun _ => some (0, false)) (fun k => ?_) (Ev.now _)
            rw [salvorref1_number.j3, if_pos rfl, e1, if_pos (by omega)]
      · have a3 : Ev (fun k => salvorref1_number.j3 k s B (u : Int) (i : Int) (c : Int) 99 false) r := by
          by_cases c3 : 65 ≤ c ∧ c ≤ 70
          · have hd : dr c = c - 65 + 10 := by unfold dr; rw [if_neg c1, if_neg c2, if_pos c3]
            have e1 : ((c : Int) - 65) % 256 + 10 = ((c - 65 + 10 : Nat) : Int) := by omega
            refine Ev.step (f := fun k => salvorref1_number.j4 k s B (u : Int) (i : Int) (c : Int) 99 true) (fun k => ?_) ?_
            · rw [salvorref1_number.j3, if_neg (by simp), if_pos (by omega), decide_eq_true (by omega)]
            · by_cases hdB : dr c < B
              · refine Ev.step (f := fun k => salvorref1_number.l0 k s B ((u * B + dr c : Nat) : Int) ((i + 1 : Nat) : Int)) (fun k => ?_) (h1 hdB)
                rw [salvorref1_number.j4, if_pos rfl, e1, if_neg (by omega), hw _ (by omega), h01, hd]
              · rw [h2 hdB]
                refine Ev.step (f := fun _ => some (0, false)) (fun k => ?_) (Ev.now _)
                rw [salvorref1_number.j4, if_pos rfl, e1, if_pos (by omega)]
          · have hd : dr c = 99 := by unfold dr; rw [if_neg c1, if_neg c2, if_neg c3]
            rw [h2 (by omega)]
            refine Ev.step (f := fun k => salvorref1_number.j4 k s B (u : Int) (i : Int) (c : Int) 99 false) (fun k => ?_) ?_
            · rw [salvorref1_number.j3, if_neg (by simp)]
              by_cases c4 : 65 ≤ c
              · rw [if_pos (by omega), decide_eq_false (by omega)]
              · rw [if_neg (by omega)]
            · refine Ev.step (f := fun _ => some (0, false)) (fun k => ?_) (Ev.now _)
              rw [salvorref1_number.j4, if_neg (by simp), if_pos (by omega)]
        refine Ev.step (f := fun k => salvorref1_number.j3 k s B (u : Int) (i : Int) (c : Int) 99 false) (fun k => ?_) a3
        rw [salvorref1_number.j2, if_neg (by simp)]
        by_cases c4 : 97 ≤ c
        · rw [if_pos (by omega), decide_eq_false (by omega)]
        · rw [if_neg (by omega)]
    refine Ev.step (f := fun k => salvorref1_number.j2 k s B (u : Int) (i : Int) (c : Int) 99 false) (fun k => ?_) a2
    rw [salvorref1_number.l0, if_pos (by omega), if_pos (by omega), hc]
    by_cases c4 : 48 ≤ c
    · rw [if_pos (by omega), decide_eq_false (by omega)]
    · rw [if_neg (by omega)]
def inMX : Option Nat → Option Nat
  | some u => if u ≤ MX then some u else none
  | none => none
theorem num_loop (s : ByteArray) (B n : Nat) (hB1 : 1 ≤ B) (hB : B ≤ 16) (hs : s.size ≤ n) (hn : n ≤ 19) (hBn : B ^ n ≤ 18446744073709551616) : ∀ d i u : Nat, s.size - i = d → i ≤ s.size → u + 1 ≤ B ^ i →
    Ev (fun k => salvorref1_number.l0 k s B (u : Int) (i : Int)) (val (inMX (nu B u (s.data.toList.drop i)))) := by
  intro d
  induction d with
  | zero =>
    intro i u hd hi hu
    rw [List.drop_eq_nil_of_le (by rw [data_len]; omega)]
    have hu2 : u < 18446744073709551616 := by
      have : B ^ i ≤ B ^ n := Nat.pow_le_pow_right hB1 (by omega)
      omega
    by_cases c : u ≤ MX
    · refine Ev.step (f := fun _ => some ((u : Int), true)) (fun k => ?_) ?_
      · rw [salvorref1_number.l0, if_neg (by omega), if_neg (by unfold MX at c; omega), wrap_nat u c]
      · simp only [nu, inMX, if_pos c]; exact Ev.now _
    · refine Ev.step (f := fun _ => some (0, false)) (fun k => ?_) ?_
      · rw [salvorref1_number.l0, if_neg (by omega), if_pos (by unfold MX at c; omega)]
      · simp only [nu, inMX, if_neg c]; exact Ev.now _
  | succ d ih =>
    intro i u hd hi hu
    have hlt : i < s.size := by omega
    have hlt2 : i < s.data.toList.length := by rw [data_len]; exact hlt
    rw [List.drop_eq_getElem_cons hlt2]
    have hb := bt_data s i hlt
    obtain ⟨k1, k2⟩ := dr_dv (s.data.toList[i])
    have hpow : B ^ i * B ≤ 18446744073709551616 := by
      have : B ^ (i + 1) ≤ B ^ n := Nat.pow_le_pow_right hB1 (by omega)
      rw [Nat.pow_succ] at this; omega
    have hm : (u + 1) * B ≤ B ^ i * B := Nat.mul_le_mul_right B hu
    rw [Nat.add_mul, Nat.one_mul] at hm
    have hbound : ∀ d, d < B → u * B + d + 1 ≤ B ^ (i + 1) := by intro d hd; rw [Nat.pow_succ]; omega
    by_cases hdB : dv (s.data.toList[i]).toNat < B
    · have hd2 := k2 (by omega)
      simp only [nu, if_pos hdB]
      refine num_step s B u i _ hB hlt (by omega) _ hb (s.data.toList[i]).toNat_lt ?_ (fun _ => ?_) (fun h => absurd (by omega) h)
      · omega
      · rw [hd2]
        exact ih (i + 1) _ (by omega) (by omega) (hbound _ hdB)
    · simp only [nu, if_neg hdB]
      refine num_step s B u i _ hB hlt (by omega) _ hb (s.data.toList[i]).toNat_lt ?_ (fun h => ?_) (fun _ => rfl)
      · omega
      · exact absurd (by have := k1.1 (by omega); have := k2 this; omega) hdB
/-- The reference's number. -/
theorem number_ev (s : ByteArray) (B most : Nat) (hB : B = 10 ∧ most = 19 ∨ B = 16 ∧ most = 16) (hs : s.size ≤ 100000) : Ev (fun k => salvorref1_number.f k s (B : Int) (most : Int)) (val (dgN B most s.data.toList)) := by
  have hl := data_len s
  have no : Ev (fun k => salvorref1_number.j0 k s (B : Int) true) (0, false) := Ev.step (f := fun _ => some (0, false)) (fun k => by rw [salvorref1_number.j0, if_pos rfl]) (Ev.now _)
  unfold salvorref1_number.f
  by_cases h0 : s.size = 0
  · have e : dgN B most s.data.toList = none := by
      unfold dgN dg
      rw [if_neg (by omega), if_pos (List.length_eq_zero_iff.1 (by omega))]
    rw [e]
    simp only [if_pos (show (s.size : Int) < 1 by omega)]
    exact no
  · simp only [if_neg (show ¬ (s.size : Int) < 1 by omega)]
    by_cases h1 : most < s.size
    · have e : dgN B most s.data.toList = none := by unfold dgN; rw [if_pos (by omega)]
      rw [e, decide_eq_true (show (s.size : Int) > (most : Int) by omega)]
      exact no
    · have e : dgN B most s.data.toList = inMX (nu B 0 (s.data.toList.drop 0)) := by
        unfold dgN dg
        rw [if_neg (by omega), if_neg (fun h => h0 (by rw [h] at hl; simp at hl; omega))]
        rfl
      rw [e, decide_eq_false (show ¬ (s.size : Int) > (most : Int) by omega)]
      have := num_loop s B most (by omega) (by omega) (by omega) (by omega) (by rcases hB with ⟨rfl, rfl⟩ | ⟨rfl, rfl⟩ <;> decide) s.size 0 0 (by omega) (by omega) (by simp)
      refine Ev.step (f := fun k => salvorref1_number.l0 k s (B : Int) ((0 : Nat) : Int) ((0 : Nat) : Int)) (fun k => ?_) this
      rw [salvorref1_number.j0, if_neg (by simp)]; rfl
theorem refGetDec_ev (s : ByteArray) (hs : s.size ≤ 100000) : Ev (fun k => salvorref1_GetDec.f k s) (val (if 1 < s.size ∧ s.data.toList.head? = some 48 then none else dgN 10 19 s.data.toList)) := by
  have hd := number_ev s 10 19 (.inl ⟨rfl, rfl⟩) hs
  replace hd : Ev (fun k => salvorref1_number.f k s 10 19) (val (dgN 10 19 s.data.toList)) := hd
  unfold salvorref1_GetDec.f
  by_cases h : 1 < s.size
  · have hb := bt_data s 0 (by omega)
    replace hb : bt s 0 = _ := hb
    have hh : s.data.toList.head? = some (s.data.toList[0]'(by rw [data_len]; omega)) := by
      rw [List.head?_eq_getElem?, List.getElem?_eq_getElem]
    simp only [if_pos (show (s.size : Int) > 1 by omega), if_pos (show (0 : Int) < (s.size : Int) by omega), hb]
    by_cases c : (s.data.toList[0]'(by rw [data_len]; omega)) = 48
    · rw [c, if_pos ⟨h, by rw [hh, c]⟩]
      simp only [if_pos (show (((48 : UInt8).toNat : Int)) = 48 by decide)]
      exact Ev.now _
    · have c2 : ¬ ((s.data.toList[0]'(by rw [data_len]; omega)).toNat : Int) = 48 := by intro e; exact c (UInt8.toNat_inj.1 (by have : ((48 : UInt8).toNat : Int) = 48 := rfl; omega))
      simp only [if_neg c2]
      rw [if_neg (by rintro ⟨_, e⟩; rw [hh] at e; exact c (Option.some.inj e))]
      exact Ev.bind hd (Ev.now _)
  · simp only [if_neg (show ¬ (s.size : Int) > 1 by omega)]
    rw [if_neg (by omega)]
    exact Ev.bind hd (Ev.now _)
theorem refGetHex_ev (s : ByteArray) (hs : s.size ≤ 100000) : Ev (fun k => salvorref1_GetHex.f k s) (val (if s.data.toList.take 2 = [48, 120] then dgN 16 16 (s.data.toList.drop 2) else none)) := by
  have hl := data_len s
  unfold salvorref1_GetHex.f
  by_cases h : s.size < 2
  · simp only [if_pos (show (s.size : Int) < 2 by omega)]
    rw [if_neg (fun e => by have := congrArg List.length e; simp at this; omega)]
    exact Ev.now _
  · have e2 : (s.extract 0 2).toList = s.data.toList.take 2 := by rw [ByteArray.toList_eq, ext_take]
    simp only [if_neg (show ¬ (s.size : Int) < 2 by omega), if_pos (show (0 : Int) ≤ 2 by omega), if_pos (show (2 : Int) ≤ (s.size : Int) by omega), e2]
    by_cases c : s.data.toList.take 2 = [48, 120]
    · simp only [if_pos c]
      have hd := number_ev (s.extract 2 s.size) 16 16 (.inr ⟨rfl, rfl⟩) (by rw [← data_len, ext_drop, List.length_drop]; omega)
      rw [ext_drop] at hd
      exact Ev.bind hd (Ev.now _)
    · simp only [if_neg c]; exact Ev.now _
theorem refmay_ok (n : Nat) (h : n ≤ MX) : salvorref1_May.f (n : Int) = some true := by
  unfold salvorref1_May.f
  rw [if_pos (by omega)]
  exact congrArg some (decide_eq_true (by unfold MX at h; omega))
theorem rmul1_ev (l : List Nat) (hm : ∀ x ∈ l, x ≤ MX) (hp : ∀ x ∈ l, 1 ≤ x) (hl : l.length < 4611686018427387904) : ∀ d i p : Nat, l.length - i = d → i ≤ l.length → 1 ≤ p → p ≤ MX →
    Ev (fun k => salvorref1_Mul.l1 k (cast l) (p : Int) (i : Int)) (val (mulG p (l.drop i))) := by
  intro d
  induction d with
  | zero =>
    intro i p hd hi h1 h2
    rw [List.drop_eq_nil_of_le (by omega)]
    exact Ev.step (f := fun _ => some ((p : Int), true)) (fun k => by rw [salvorref1_Mul.l1, if_neg (by rw [cast_len]; omega)]) (Ev.now _)
  | succ d ih =>
    intro i p hd hi h1 h2
    have hlt : i < l.length := by omega
    have hx := hm _ (List.getElem_mem hlt)
    have hx1 := hp _ (List.getElem_mem hlt)
    have hq : wrap64 ((4611686018427387904 : Int) / (p : Int)) = ((MX / p : Nat) : Int) := by
      have : ((4611686018427387904 : Int) / (p : Int)) = ((MX / p : Nat) : Int) := rfl
      rw [this]
      exact wrap_nat _ (by have := Nat.div_le_self MX p; unfold MX at *; omega)
    rw [List.drop_eq_getElem_cons hlt, mulG]
    by_cases c : MX / p < l[i]
    · rw [if_pos c]
      refine Ev.step (f := fun _ => some (0, false)) (fun k => ?_) (Ev.now _)
      rw [salvorref1_Mul.l1, if_pos (by rw [cast_len]; omega), if_pos (by omega), if_neg (by omega), rd_cast l i hlt, hq, if_pos (by omega)]
    · rw [if_neg c]
      have c2 : p * l[i] ≤ MX := by
        have := (Nat.le_div_iff_mul_le h1).1 (Nat.le_of_not_lt c); rw [Nat.mul_comm]; exact this
      have := ih (i + 1) (p * l[i]) (by omega) (by omega) (Nat.mul_pos h1 hx1) c2
      refine Ev.step (f := fun k => salvorref1_Mul.l1 k (cast l) ((p * l[i] : Nat) : Int) ((i + 1 : Nat) : Int)) (fun k => ?_) this
      have hw : wrap64 ((p : Int) * (l[i] : Int)) = ((p * l[i] : Nat) : Int) := by
        rw [← Int.natCast_mul]; exact wrap_nat _ c2
      rw [salvorref1_Mul.l1, if_pos (by rw [cast_len]; omega), if_pos (by omega), if_neg (by omega), rd_cast l i hlt, hq, if_neg (by omega), hw, wrap_succ i (by omega)]
theorem rmul0_ev (l : List Nat) (hm : ∀ x ∈ l, x ≤ MX) (hl : l.length < 4611686018427387904) : ∀ d i : Nat, l.length - i = d → i ≤ l.length → ∀ z : Bool, (z = true ↔ ∃ j, ∃ h : j < l.length, j < i ∧ l[j] = 0) →
    Ev (fun k => salvorref1_Mul.l0 k (cast l) z (i : Int)) (val (mulL l)) := by
  intro d
  induction d with
  | zero =>
    intro i hd hi z hz
    cases z with
    | true =>
      obtain ⟨j, hj, _, e⟩ := hz.1 rfl
      have e : mulL l = some 0 := by unfold mulL; rw [if_pos (by rw [← e]; exact List.getElem_mem hj)]
      rw [e]
      exact Ev.step (f := fun _ => some (0, true)) (fun k => by rw [salvorref1_Mul.l0, if_neg (by rw [cast_len]; omega), if_pos rfl]) (Ev.now _)
    | false =>
      have hnz : ¬ 0 ∈ l := by
        intro h
        obtain ⟨j, hj, e⟩ := List.getElem_of_mem h
        exact absurd (hz.2 ⟨j, hj, by omega, e⟩) (by simp)
      have := rmul1_ev l hm (fun x hx => Nat.pos_of_ne_zero (fun e => hnz (e ▸ hx))) hl l.length 0 1 (by omega) (by omega) (Nat.le_refl _) (by decide)
      have e : mulL l = mulG 1 (l.drop 0) := by unfold mulL; rw [if_neg hnz]; rfl
      rw [e]
      refine Ev.step (f := fun k => salvorref1_Mul.l1 k (cast l) ((1 : Nat) : Int) ((0 : Nat) : Int)) (fun k => ?_) this
      rw [salvorref1_Mul.l0, if_neg (by rw [cast_len]; omega), if_neg (by simp)]; rfl
  | succ d ih =>
    intro i hd hi z
    have hlt : i < l.length := by omega
    have hr := rd_cast l i hlt
    have a1 : l.length - (i + 1) = d := by omega
    have a2 : i + 1 ≤ l.length := by omega
    have a3 : (i : Int) < (l.length : Int) := by omega
    have a4 : (0 : Int) ≤ (i : Int) := by omega
    have a5 := wrap_succ i (by omega)
    intro hz
    cases z with
    | true =>
      obtain ⟨j, hj, hji, e⟩ := hz.1 rfl
      have := ih (i + 1) a1 a2 true ⟨fun _ => ⟨j, hj, by omega, e⟩, fun _ => rfl⟩
      refine Ev.step (f := fun k => salvorref1_Mul.l0 k (cast l) true ((i + 1 : Nat) : Int)) (fun k => ?_) this
      rw [salvorref1_Mul.l0, if_pos (by rw [cast_len]; exact a3), if_pos a4, hr, refmay_ok _ (hm _ (List.getElem_mem hlt)), Option.bind_some, if_pos rfl, if_pos rfl, a5]
    | false =>
      have := ih (i + 1) a1 a2 ((l[i] : Int) == 0) ⟨fun h => ⟨i, hlt, by omega, by simpa using h⟩, fun ⟨j, hj, hji, e⟩ => by
        by_cases c : j = i
        · subst c; simp [e]
        · exact absurd (hz.2 ⟨j, hj, by omega, e⟩) (by simp)⟩
      refine Ev.step (f := fun k => salvorref1_Mul.l0 k (cast l) ((l[i] : Int) == 0) ((i + 1 : Nat) : Int)) (fun k => ?_) this
      rw [salvorref1_Mul.l0, if_pos (by rw [cast_len]; exact a3), if_pos a4, hr, refmay_ok _ (hm _ (List.getElem_mem hlt)), Option.bind_some, if_pos rfl, if_neg (by simp), a5]
theorem rmul_ev (l : List Nat) (hm : ∀ x ∈ l, x ≤ MX) (hl : l.length < 4611686018427387904) : Ev (fun k => salvorref1_Mul.f k (cast l)) (val (mulL l)) := by
  unfold salvorref1_Mul.f
  exact rmul0_ev l hm hl l.length 0 (by omega) (by omega) false ⟨fun h => by simp at h, fun ⟨j, hj, h, _⟩ => absurd h (Nat.not_lt_zero _)⟩
end Go.Proofs.YtalcenfcknmchaaDoor.Pure
