/- The reference's May and end are the program's. No conditions beyond those that the lemmas name. Plain laws of numbers, of seat 2's: what the reference's functions answer. No program in sight. No conditions. Plain laws of cut texts, of seat 9's: the reference's Words. No program in sight. No conditions beyond those that the lemmas name. Plain laws of maps: which may be, and their texts. No program in sight. No conditions beyond those that the lemmas name. Plain laws of a line's words: the reference's are strings.FieldsFunc's at blanks and tabs. No program in sight. No conditions beyond those that the lemmas name. Plain laws of a map's text: what the reference's Parse answers. No program in sight. No conditions beyond those that the lemmas name. Plain laws of a map's text: what the program and the reference answer, side by side. No program in sight. No conditions beyond those that the lemmas name. -/
import Derived.Test.YtlcablcpcbmgeaaGreatDoorPx0
import Derived.Test.YtlcablcpcbmgeaaGreatDoorPx4
import Derived.Test.YtlcablcpcbmgeaaGreatDoorPx23
import Derived.Test.YtlcablcpcbmgeaaGreatDoorPx24
import Derived.Test.YtlcablcpcbmgeaaGreatDoorPx25
import Derived.Test.YtlcablcpcbmgeaaGreatDoorMapS
import Derived.Test.YtlcablcpcbmgeaaGreatDoorPx32
import Derived.Test.YtlcablcpcbmgeaaGreatDoorPx33
import Derived.Test.YtlcablcpcbmgeaaGreatDoorPx30
import Derived.Lib.SplitLaws
import Derived.Lib.SmallJoins
import Derived.Test.YtlcablcpcbmgeaaGreatDoorPx26
import Derived.Test.YtlcablcpcbmgeaaGreatDoorPx14
import Derived.Test.YtlcablcpcbmgeaaGreatDoorPx31
import Derived.Test.YtlcablcpcbmgeaaGreatDoorPx34
import Derived.Test.YtlcablcpcbmgeaaGreatDoorPx35
import Derived.Test.YtlcablcpcbmgeaaGreatDoorPx22
import Derived.Test.YtlcablcpcbmgeaaGreatDoorPureMapRuns
section
-- names: region_end.f salvorref16_End.f salvorref16_MayRegions.f salvorref16_status.f
namespace Go.Proofs.YtlcablcpcbmgeaaGreatDoor.Reg
open Go.RowKit Go.Proofs.YtlcablcpcbmgeaaGreatDoorW.PrintWords Go.Proofs.YtlcablcpcbmgeaaGreatDoorW.PrintLast Go.Proofs.YtlcablcpcbmgeaaGreatDoorW.PrintMore Go.Proofs.YtlcablcpcbmgeaaGreatDoor.P

theorem status_eq (c : Int) : salvorref16_status.f c = some (isS c) := by
  unfold salvorref16_status.f isS
  by_cases h1 : c = 63 <;> by_cases h2 : c = 42 <;> by_cases h3 : c = 47 <;> by_cases h4 : c = 45 <;> by_cases h5 : c = 43 <;> simp_all

theorem mayref_ev (l : List S23) (hl : l.length ≤ 4611686018427387904) : ∀ (t : List S23) (i : Nat) (e : Int), l.drop i = t → 0 ≤ e → e ≤ 1099511627776 →
    Ev (fun k => salvorref16_MayRegions.l0 k l e (i : Int)) (mayL e (prev l i) t) := by
  intro t
  induction t with
  | nil =>
    intro i e h h0 h1
    have hge := drop_nil_ge h
    refine Ev.step (f := fun _ => some true) (fun k => ?_) (Ev.now _)
    simp only [salvorref16_MayRegions.l0]
    rw [if_neg (by omega)]
  | cons r t ih =>
    intro i e h h0 h1
    have hlt := drop_lt h
    have hr := rd_at l i r t h
    have hn := drop_succ h
    have key : ∀ k, salvorref16_MayRegions.l0 (k + 1) l e (i : Int) =
        salvorref16_MayRegions.j1 k l e (i : Int) (!(decide (r.f0 = e) && decide (1 ≤ r.f1) && decide (r.f1 ≤ 1099511627776 - e) && isS r.f2 && decide (prev l i ≠ some r.f2))) := by
      intro k
      simp only [salvorref16_MayRegions.l0]
      rw [if_pos (by omega), if_pos (by omega), hr]
      by_cases c1 : r.f0 = e
      · rw [if_pos c1]
        by_cases c2 : r.f1 < 1
        · rw [if_pos c2]; simp [c1, show ¬ 1 ≤ r.f1 from by omega]
        · rw [if_neg c2, wrap_in (x := 1099511627776 - e) (by omega) (by omega)]
          by_cases c3 : r.f1 > 1099511627776 - e
          · rw [if_pos c3]; simp [c1, show ¬ r.f1 ≤ 1099511627776 - e from by omega]
          · rw [if_neg c3, status_eq, wrap_in (x := (i : Int) - 1) (by omega) (by omega)]
            simp only [Option.bind_some]
            cases hs : isS r.f2 with
            | false => simp [c1]
            | true =>
              simp only [if_true]
              by_cases c4 : (i : Int) > 0
              · rw [if_pos c4, if_pos (by omega), if_pos (by omega)]
                have hi : i ≠ 0 := by omega
                simp only [prev, hi, if_false]
                by_cases c5 : (rd_T23 l ((i : Int) - 1)).f2 = r.f2
                · simp [c5]
                · rw [beq_eq_false_iff_ne.mpr c5]
                  simp [c1, c5, show 1 ≤ r.f1 from by omega, show r.f1 ≤ 1099511627776 - e from by omega]
              · rw [if_neg c4]
                have hi : i = 0 := by omega
                simp [prev, hi, c1, show 1 ≤ r.f1 from by omega, show r.f1 ≤ 1099511627776 - e from by omega]
      · rw [if_neg c1]; simp [c1]
    by_cases hc : (decide (r.f0 = e) && decide (1 ≤ r.f1) && decide (r.f1 ≤ 1099511627776 - e) && isS r.f2 && decide (prev l i ≠ some r.f2)) = true
    · have hb : 1 ≤ r.f1 ∧ r.f1 ≤ 1099511627776 - e := by simp only [Bool.and_eq_true, decide_eq_true_eq] at hc; omega
      have ih' := ih (i + 1) (e + r.f1) hn (by omega) (by omega)
      have hpv : prev l (i + 1) = some r.f2 := by simp [prev, hr]
      rw [hpv] at ih'
      rw [mayL, hc, Bool.true_and]
      refine Ev.step (f := fun k => salvorref16_MayRegions.j1 k l e (i : Int) false) (fun k => by rw [key k, hc]; rfl) ?_
      refine Ev.step (f := fun k => salvorref16_MayRegions.l0 k l (e + r.f1) ((i : Int) + 1)) (fun k => ?_) ?_
      · simp only [salvorref16_MayRegions.j1, Bool.false_eq_true, if_false]
        rw [if_pos (by omega), if_pos (by omega), hr, wrap_in (x := e + r.f1) (by omega) (by omega), wrap_in (x := (i : Int) + 1) (by omega) (by omega)]
      · have e1 : (((i + 1 : Nat) : Int)) = (i : Int) + 1 := by omega
        rw [e1] at ih'
        exact ih'
    · rw [mayL, Bool.eq_false_iff.mpr hc, Bool.false_and]
      refine Ev.step (f := fun k => salvorref16_MayRegions.j1 k l e (i : Int) true) (fun k => by rw [key k, Bool.eq_false_iff.mpr hc]; rfl) ?_
      exact Ev.step (f := fun _ => some false) (fun k => by simp [salvorref16_MayRegions.j1]) (Ev.now _)

theorem mayref (l : List S23) (hl : l.length ≤ 4611686018427387904) : Ev (fun k => salvorref16_MayRegions.f k l) (mayL 0 none l) := by
  have := mayref_ev l hl l 0 0 rfl (by omega) (by omega)
  simpa [prev, salvorref16_MayRegions.f] using this
theorem endref_ev (l : List S23) (hl : l.length ≤ 4611686018427387904) : Ev (fun k => salvorref16_End.f k l) (if mayL 0 none l = true then endOf 0 l else 0) := by
  unfold salvorref16_End.f
  refine Ev.bind (mayref l hl) ?_
  cases hm : mayL 0 none l with
  | false => exact Ev.now _
  | true =>
    have he := end_may hm
    unfold region_end.f at he
    simp only [if_true, he]
    exact Ev.now _
end Go.Proofs.YtlcablcpcbmgeaaGreatDoor.Reg
end

section
namespace Go.Proofs.YtlcablcpcbmgeaaGreatDoor.PureN
open Go.RowKit Go.Proofs.YtlcablcpcbmgeaaGreatDoorW.PrintWords Go.Proofs.YtlcablcpcbmgeaaGreatDoorW.PrintLast Go.Proofs.YtlcablcpcbmgeaaGreatDoor.P Go.Proofs.YtlcablcpcbmgeaaGreatDoor.Num
-- names: salvorref1_number.f salvorref1_GetDec.f salvorref1_GetHex.f
set_option linter.unusedVariables false
set_option linter.unusedSimpArgs false
def dr (c : Nat) : Nat := if 48 ≤ c ∧ c ≤ 57 then c - 48 else if 97 ≤ c ∧ c ≤ 102 then c - 97 + 10 else if 65 ≤ c ∧ c ≤ 70 then c - 65 + 10 else 99
theorem dr_dv (c : UInt8) : (dr c.toNat < 16 ↔ dv c.toNat < 16) ∧ (dv c.toNat < 16 → dr c.toNat = dv c.toNat) := by
  have h : ∀ c : Fin 256, (dr c < 16 ↔ dv c < 16) ∧ (dv c < 16 → dr c = dv c) := by decide +kernel
  exact h ⟨c.toNat, c.toNat_lt⟩
theorem num_step (s : ByteArray) (B u i : Nat) (r : Int × Bool) (hB : B ≤ 16) (hi : i < s.size) (hs : s.size ≤ 100000) (c : Nat) (hc : bt s i = (c : Int)) (hc2 : c < 256) (hu : u * B + B ≤ 18446744073709551616)
    (h1 : dr c < B → Ev (fun k => salvorref1_number.l0 k s B ((u * B + dr c : Nat) : Int) ((i + 1 : Nat) : Int)) r) (h2 : ¬ dr c < B → r = (0, false)) :
    Ev (fun k => salvorref1_number.l0 k s B (u : Int) (i : Int)) r := by
  have hw : ∀ d : Nat, d < B → IntKind.u64.wrap (IntKind.u64.wrap ((u : Int) * (B : Int)) + (d : Int)) = ((u * B + d : Nat) : Int) := by
    intro d hd
    have e : (u : Int) * (B : Int) = ((u * B : Nat) : Int) := by rw [Int.natCast_mul]
    have e2 : IntKind.u64.wrap ((u * B : Nat) : Int) = ((u * B : Nat) : Int) := IntWalk.u64_in _ ⟨by omega, by omega⟩
    rw [e, e2, IntWalk.u64_in _ ⟨by omega, by omega⟩]
    omega
  have h01 := wrap_succ i (by omega)
  by_cases c1 : 48 ≤ c ∧ c ≤ 57
  · have hd : dr c = c - 48 := by unfold dr; rw [if_pos c1]
    have e1 : ((c : Int) - 48) % 256 = ((c - 48 : Nat) : Int) := by omega
    refine Ev.step (f := fun k => salvorref1_number.j2 k s B (u : Int) (i : Int) (c : Int) 99 true) (fun k => ?_) ?_
    · rw [salvorref1_number.l0, if_pos (by omega), if_pos (by omega), hc, if_pos (by omega), decide_eq_true (by omega)]
    · by_cases hdB : dr c < B
      · refine Ev.step (f := fun k => salvorref1_number.l0 k s B ((u * B + dr c : Nat) : Int) ((i + 1 : Nat) : Int)) (fun k => ?_) (h1 hdB)
        rw [salvorref1_number.j2, if_pos rfl, e1, if_neg (by omega), hw _ (by omega), h01, hd]
      · rw [h2 hdB]
        refine Ev.step (f := fun _ => some (0, false)) (fun k => ?_) (Ev.now _)
        rw [salvorref1_number.j2, if_pos rfl, e1, if_pos (by omega)]
  · have a2 : Ev (fun k => salvorref1_number.j2 k s B (u : Int) (i : Int) (c : Int) 99 false) r := by
      by_cases c2 : 97 ≤ c ∧ c ≤ 102
      · have hd : dr c = c - 97 + 10 := by unfold dr; rw [if_neg c1, if_pos c2]
        have e1 : ((c : Int) - 97) % 256 + 10 = ((c - 97 + 10 : Nat) : Int) := by omega
        refine Ev.step (f := fun k => salvorref1_number.j3 k s B (u : Int) (i : Int) (c : Int) 99 true) (fun k => ?_) ?_
        · rw [salvorref1_number.j2, if_neg (by simp), if_pos (by omega), decide_eq_true (by omega)]
        · by_cases hdB : dr c < B
          · refine Ev.step (f := fun k => salvorref1_number.l0 k s B ((u * B + dr c : Nat) : Int) ((i + 1 : Nat) : Int)) (fun k => ?_) (h1 hdB)
            rw [salvorref1_number.j3, if_pos rfl, e1, if_neg (by omega), hw _ (by omega), h01, hd]
          · rw [h2 hdB]
            refine Ev.step (f := fun _ => some (0, false)) (fun k => ?_) (Ev.now _)
            rw [salvorref1_number.j3, if_pos rfl, e1, if_pos (by omega)]
      · have a3 : Ev (fun k => salvorref1_number.j3 k s B (u : Int) (i : Int) (c : Int) 99 false) r := by
          by_cases c3 : 65 ≤ c ∧ c ≤ 70
          · have hd : dr c = c - 65 + 10 := by unfold dr; rw [if_neg c1, if_neg c2, if_pos c3]
            have e1 : ((c : Int) - 65) % 256 + 10 = ((c - 65 + 10 : Nat) : Int) := by omega
            refine Ev.step (f := fun k => salvorref1_number.j4 k s B (u : Int) (i : Int) (c : Int) 99 true) (fun k => ?_) ?_
            · rw [salvorref1_number.j3, if_neg (by simp), if_pos (by omega), decide_eq_true (by omega)]
            · by_cases hdB : dr c < B
              · refine Ev.step (f := fun k => salvorref1_number.l0 k s B ((u * B + dr c : Nat) : Int) ((i + 1 : Nat) : Int)) (fun k => ?_) (h1 hdB)
                rw [salvorref1_number.j4, if_pos rfl, e1, if_neg (by omega), hw _ (by omega), h01, hd]
              · rw [h2 hdB]
                refine Ev.step (f := fun _ => some (0, false)) (fun k => ?_) (Ev.now _)
                rw [salvorref1_number.j4, if_pos rfl, e1, if_pos (by omega)]
          · have hd : dr c = 99 := by unfold dr; rw [if_neg c1, if_neg c2, if_neg c3]
            rw [h2 (by omega)]
            refine Ev.step (f := fun k => salvorref1_number.j4 k s B (u : Int) (i : Int) (c : Int) 99 false) (fun k => ?_) ?_
            · rw [salvorref1_number.j3, if_neg (by simp)]
              by_cases c4 : 65 ≤ c
              · rw [if_pos (by omega), decide_eq_false (by omega)]
              · rw [if_neg (by omega)]
            · refine Ev.step (f := fun _ => some (0, false)) (fun k => ?_) (Ev.now _)
              rw [salvorref1_number.j4, if_neg (by simp), if_pos (by omega)]
        refine Ev.step (f := fun k => salvorref1_number.j3 k s B (u : Int) (i : Int) (c : Int) 99 false) (fun k => ?_) a3
        rw [salvorref1_number.j2, if_neg (by simp)]
        by_cases c4 : 97 ≤ c
        · rw [if_pos (by omega), decide_eq_false (by omega)]
        · rw [if_neg (by omega)]
    refine Ev.step (f := fun k => salvorref1_number.j2 k s B (u : Int) (i : Int) (c : Int) 99 false) (fun k => ?_) a2
    rw [salvorref1_number.l0, if_pos (by omega), if_pos (by omega), hc]
    by_cases c4 : 48 ≤ c
    · rw [if_pos (by omega), decide_eq_false (by omega)]
    · rw [if_neg (by omega)]
def inMX : Option Nat → Option Nat
  | some u => if u ≤ MX then some u else none
  | none => none
theorem num_loop (s : ByteArray) (B n : Nat) (hB1 : 1 ≤ B) (hB : B ≤ 16) (hs : s.size ≤ n) (hn : n ≤ 19) (hBn : B ^ n ≤ 18446744073709551616) : ∀ d i u : Nat, s.size - i = d → i ≤ s.size → u + 1 ≤ B ^ i →
    Ev (fun k => salvorref1_number.l0 k s B (u : Int) (i : Int)) (val (inMX (nu B u (s.data.toList.drop i)))) := by
  intro d
  induction d with
  | zero =>
    intro i u hd hi hu
    rw [List.drop_eq_nil_of_le (by rw [data_len]; omega)]
    have hu2 : u < 18446744073709551616 := by
      have : B ^ i ≤ B ^ n := Nat.pow_le_pow_right hB1 (by omega)
      omega
    by_cases c : u ≤ MX
    · refine Ev.step (f := fun _ => some ((u : Int), true)) (fun k => ?_) ?_
      · rw [salvorref1_number.l0, if_neg (by omega), if_neg (by unfold MX at c; omega), wrap_nat u c]
      · simp only [nu, inMX, if_pos c]; exact Ev.now _
    · refine Ev.step (f := fun _ => some (0, false)) (fun k => ?_) ?_
      · rw [salvorref1_number.l0, if_neg (by omega), if_pos (by unfold MX at c; omega)]
      · simp only [nu, inMX, if_neg c]; exact Ev.now _
  | succ d ih =>
    intro i u hd hi hu
    have hlt : i < s.size := by omega
    have hlt2 : i < s.data.toList.length := by rw [data_len]; exact hlt
    rw [List.drop_eq_getElem_cons hlt2]
    have hb := bt_data s i hlt
    obtain ⟨k1, k2⟩ := dr_dv (s.data.toList[i])
    have hpow : B ^ i * B ≤ 18446744073709551616 := by
      have : B ^ (i + 1) ≤ B ^ n := Nat.pow_le_pow_right hB1 (by omega)
      rw [Nat.pow_succ] at this; omega
    have hm : (u + 1) * B ≤ B ^ i * B := Nat.mul_le_mul_right B hu
    rw [Nat.add_mul, Nat.one_mul] at hm
    have hbound : ∀ d, d < B → u * B + d + 1 ≤ B ^ (i + 1) := by intro d hd; rw [Nat.pow_succ]; omega
    by_cases hdB : dv (s.data.toList[i]).toNat < B
    · have hd2 := k2 (by omega)
      simp only [nu, if_pos hdB]
      refine num_step s B u i _ hB hlt (by omega) _ hb (s.data.toList[i]).toNat_lt ?_ (fun _ => ?_) (fun h => absurd (by omega) h)
      · omega
      · rw [hd2]
        exact ih (i + 1) _ (by omega) (by omega) (hbound _ hdB)
    · simp only [nu, if_neg hdB]
      refine num_step s B u i _ hB hlt (by omega) _ hb (s.data.toList[i]).toNat_lt ?_ (fun h => ?_) (fun _ => rfl)
      · omega
      · exact absurd (by have := k1.1 (by omega); have := k2 this; omega) hdB
/-- The reference's number. -/
theorem number_ev (s : ByteArray) (B most : Nat) (hB : B = 10 ∧ most = 19 ∨ B = 16 ∧ most = 16) (hs : s.size ≤ 100000) : Ev (fun k => salvorref1_number.f k s (B : Int) (most : Int)) (val (dgN B most s.data.toList)) := by
  have hl := data_len s
  have no : Ev (fun k => salvorref1_number.j0 k s (B : Int) true) (0, false) := Ev.step (f := fun _ => some (0, false)) (fun k => by rw [salvorref1_number.j0, if_pos rfl]) (Ev.now _)
  unfold salvorref1_number.f
  by_cases h0 : s.size = 0
  · have e : dgN B most s.data.toList = none := by
      unfold dgN dg
      rw [if_neg (by omega), if_pos (List.length_eq_zero_iff.1 (by omega))]
    rw [e]
    simp only [if_pos (show (s.size : Int) < 1 by omega)]
    exact no
  · simp only [if_neg (show ¬ (s.size : Int) < 1 by omega)]
    by_cases h1 : most < s.size
    · have e : dgN B most s.data.toList = none := by unfold dgN; rw [if_pos (by omega)]
      rw [e, decide_eq_true (show (s.size : Int) > (most : Int) by omega)]
      exact no
    · have e : dgN B most s.data.toList = inMX (nu B 0 (s.data.toList.drop 0)) := by
        unfold dgN dg
        rw [if_neg (by omega), if_neg (fun h => h0 (by rw [h] at hl; simp at hl; omega))]
        rfl
      rw [e, decide_eq_false (show ¬ (s.size : Int) > (most : Int) by omega)]
      have := num_loop s B most (by omega) (by omega) (by omega) (by omega) (by rcases hB with ⟨rfl, rfl⟩ | ⟨rfl, rfl⟩ <;> decide) s.size 0 0 (by omega) (by omega) (by simp)
      refine Ev.step (f := fun k => salvorref1_number.l0 k s (B : Int) ((0 : Nat) : Int) ((0 : Nat) : Int)) (fun k => ?_) this
      rw [salvorref1_number.j0, if_neg (by simp)]; rfl
theorem refGetDec_ev (s : ByteArray) (hs : s.size ≤ 100000) : Ev (fun k => salvorref1_GetDec.f k s) (val (if 1 < s.size ∧ s.data.toList.head? = some 48 then none else dgN 10 19 s.data.toList)) := by
  have hd := number_ev s 10 19 (.inl ⟨rfl, rfl⟩) hs
  replace hd : Ev (fun k => salvorref1_number.f k s 10 19) (val (dgN 10 19 s.data.toList)) := hd
  unfold salvorref1_GetDec.f
  by_cases h : 1 < s.size
  · have hb := bt_data s 0 (by omega)
    replace hb : bt s 0 = _ := hb
    have hh : s.data.toList.head? = some (s.data.toList[0]'(by rw [data_len]; omega)) := by
      rw [List.head?_eq_getElem?, List.getElem?_eq_getElem]
    simp only [if_pos (show (s.size : Int) > 1 by omega), if_pos (show (0 : Int) < (s.size : Int) by omega), hb]
    by_cases c : (s.data.toList[0]'(by rw [data_len]; omega)) = 48
    · rw [c, if_pos ⟨h, by rw [hh, c]⟩]
      simp only [if_pos (show (((48 : UInt8).toNat : Int)) = 48 by decide)]
      exact Ev.now _
    · have c2 : ¬ ((s.data.toList[0]'(by rw [data_len]; omega)).toNat : Int) = 48 := by intro e; exact c (UInt8.toNat_inj.1 (by have : ((48 : UInt8).toNat : Int) = 48 := rfl; omega))
      simp only [if_neg c2]
      rw [if_neg (by rintro ⟨_, e⟩; rw [hh] at e; exact c (Option.some.inj e))]
      exact Ev.bind hd (Ev.now _)
  · simp only [if_neg (show ¬ (s.size : Int) > 1 by omega)]
    rw [if_neg (by omega)]
    exact Ev.bind hd (Ev.now _)
theorem refGetHex_ev (s : ByteArray) (hs : s.size ≤ 100000) : Ev (fun k => salvorref1_GetHex.f k s) (val (if s.data.toList.take 2 = [48, 120] then dgN 16 16 (s.data.toList.drop 2) else none)) := by
  have hl := data_len s
  unfold salvorref1_GetHex.f
  by_cases h : s.size < 2
  · simp only [if_pos (show (s.size : Int) < 2 by omega)]
    rw [if_neg (fun e => by have := congrArg List.length e; simp at this; omega)]
    exact Ev.now _
  · have e2 : (s.extract 0 2).toList = s.data.toList.take 2 := by rw [ByteArray.toList_eq, ext_take]
    simp only [if_neg (show ¬ (s.size : Int) < 2 by omega), if_pos (show (0 : Int) ≤ 2 by omega), if_pos (show (2 : Int) ≤ (s.size : Int) by omega), e2]
    by_cases c : s.data.toList.take 2 = [48, 120]
    · simp only [if_pos c]
      have hd := number_ev (s.extract 2 s.size) 16 16 (.inr ⟨rfl, rfl⟩) (by rw [← data_len, ext_drop, List.length_drop]; omega)
      rw [ext_drop] at hd
      exact Ev.bind hd (Ev.now _)
    · simp only [if_neg c]; exact Ev.now _
end Go.Proofs.YtlcablcpcbmgeaaGreatDoor.PureN
end

section
namespace Go.Proofs.YtlcablcpcbmgeaaGreatDoor.PureW
open Go.RowKit Go.Proofs.YtlcablcpcbmgeaaGreatDoorW.PrintWords Go.Proofs.YtlcablcpcbmgeaaGreatDoorW.PrintLast Go.Proofs.YtlcablcpcbmgeaaGreatDoor.P Go.Proofs.YtlcablcpcbmgeaaGreatDoor.PureN
-- names: salvorref6_cutAt.f salvorref6_Words.f
set_option linter.unusedVariables false
set_option linter.unusedSimpArgs false
theorem ws (n : Nat) (h : n < 4611686018427387904) : wrap64 ((n : Int) + 1) = ((n + 1 : Nat) : Int) := by unfold wrap64; omega
theorem scan (s : ByteArray) (hs : s.size < 4611686018427387904) (c : Int) (m : Nat) (hm : m ≤ s.size) (hno : ∀ j : Nat, j < m → bt s j ≠ c) (r : ByteArray × ByteArray × Bool) (h : Ev (fun k => salvorref6_cutAt.l0 k s c m) r) : ∀ d j : Nat, m - j = d → j ≤ m → Ev (fun k => salvorref6_cutAt.l0 k s c j) r := by
  intro d
  induction d with
  | zero => intro j hd hj; obtain rfl : j = m := by omega
            exact h
  | succ d ih =>
    intro j hd hj
    refine Ev.step (f := fun k => salvorref6_cutAt.l0 k s c ((j + 1 : Nat) : Int)) (fun k => ?_) (ih (j + 1) (by omega) (by omega))
    rw [salvorref6_cutAt.l0, if_pos (by omega), if_pos (by omega), if_neg (hno j (by omega)), ws j (by omega)]
theorem cut_miss (s : ByteArray) (hs : s.size < 4611686018427387904) (c : UInt8) (h : Lib.indexB s ⟨#[c]⟩ = -1) : Ev (fun k => salvorref6_cutAt.f k s (c.toNat : Int)) (s, ⟨#[]⟩, false) := by
  have hl : s.data.toList.length = s.size := Array.length_toList
  have hno : ∀ j : Nat, j < s.size → bt s j ≠ (c.toNat : Int) := by
    intro j hj e
    rcases Lib.index_spec s.data.toList [c] with ⟨_, h2⟩ | ⟨i, h1, h2, h3, _⟩
    · have := h2 j (by rw [hl]; omega)
      rw [occ_bt s c j hj, decide_eq_false_iff_not] at this
      exact this e
    · have h' : Lib.index s.data.toList [c] = -1 := h
      omega
  unfold salvorref6_cutAt.f
  refine scan s hs _ s.size (Nat.le_refl _) hno _ ?_ s.size 0 (by omega) (by omega)
  exact Ev.step (f := fun _ => some (s, ⟨#[]⟩, false)) (fun k => by rw [salvorref6_cutAt.l0, if_neg (by omega)]) (Ev.now _)
theorem cut_hit (s : ByteArray) (hs : s.size < 4611686018427387904) (c : UInt8) (i : Nat) (h : Lib.indexB s ⟨#[c]⟩ = i) (hi : i < s.size) : Ev (fun k => salvorref6_cutAt.f k s (c.toNat : Int)) (s.extract 0 i, s.extract (i + 1) s.size, true) := by
  have hl : s.data.toList.length = s.size := Array.length_toList
  have hix : Lib.index s.data.toList [c] = i := h
  have hno : Lib.NoOcc s.data.toList [c] i ∧ Lib.occAt s.data.toList [c] i = true := by
    rcases Lib.index_spec s.data.toList [c] with ⟨h3, _⟩ | ⟨j, h3, h4, h5, h6⟩
    · omega
    · obtain rfl : i = j := by omega
      exact ⟨h6, h5⟩
  obtain ⟨hno, hoc⟩ := hno
  rw [occ_bt s c i hi, decide_eq_true_iff] at hoc
  unfold salvorref6_cutAt.f
  refine scan s hs _ i (by omega) (fun j hj e => ?_) _ ?_ i 0 (by omega) (by omega)
  · have := hno j hj
    rw [occ_bt s c j (by omega), decide_eq_false_iff_not] at this
    exact this e
  · refine Ev.step (f := fun _ => some (s.extract 0 i, s.extract (i + 1) s.size, true)) (fun k => ?_) (Ev.now _)
    rw [salvorref6_cutAt.l0, if_pos (by omega), if_pos (by omega), if_pos hoc, if_pos (by omega), ws i (by omega), if_pos (by omega), if_pos (by omega)]
    rfl
theorem words_ref (c : UInt8) : ∀ (k : Nat) (s : ByteArray), s.size ≤ 50000 → Lib.countB s ⟨#[c]⟩ = k → ∀ acc : List ByteArray, acc.length + k ≤ 100000 → Ev (fun n => salvorref6_Words.l0 n s (c.toNat : Int) acc) (acc ++ Lib.splitB ⟨#[c]⟩ 0 k s)
  | k, s, hs, hk, acc, hacc => by
    rcases Lib.indexB_cases s ⟨#[c]⟩ with h | ⟨i, h, hi⟩
    · rw [Lib.splitB_miss _ _ _ _ h]
      refine Ev.step (f := fun n => (salvorref6_cutAt.f n s (c.toNat : Int)).bind fun bt356 => (if acc.length < 8796093022208 then ((some (acc ++ [bt356.1] : List ByteArray)).bind fun y359 => (if bt356.2.2 = true then (salvorref6_Words.l0 n bt356.2.1 (c.toNat : Int) y359) else (some y359))) else (none))) (fun n => by rw [salvorref6_Words.l0]) ?_
      refine Ev.bind (cut_miss s (by omega) c h) ?_
      simp only [if_pos (show acc.length < 8796093022208 by omega)]
      exact Ev.now _
    · have hsz : (⟨#[c]⟩ : ByteArray).size = 1 := rfl
      rw [hsz] at hi
      have hc := Lib.countB_hit s ⟨#[c]⟩ i (by rw [hsz]; omega) h
      rw [hsz] at hc
      cases k with
      | zero => omega
      | succ k =>
        rw [Lib.splitB_hit _ _ _ _ _ h, hsz, Nat.add_zero]
        have hes : (s.extract (i + 1) s.size).size ≤ 50000 := by
          have := congrArg List.length (Lib.extract_to_end s (i + 1))
          rw [Array.length_toList, List.length_drop, Array.length_toList] at this
          have h9 : (s.extract (i + 1) s.size).size = (s.extract (i + 1) s.size).data.size := rfl
          have h8 : s.size = s.data.size := rfl
          omega
        have ih := words_ref c k (s.extract (i + 1) s.size) hes (by omega) (acc ++ [s.extract 0 i]) (by simp; omega)
        refine Ev.step (f := fun n => (salvorref6_cutAt.f n s (c.toNat : Int)).bind fun bt356 => (if acc.length < 8796093022208 then ((some (acc ++ [bt356.1] : List ByteArray)).bind fun y359 => (if bt356.2.2 = true then (salvorref6_Words.l0 n bt356.2.1 (c.toNat : Int) y359) else (some y359))) else (none))) (fun n => by rw [salvorref6_Words.l0]) ?_
        refine Ev.bind (cut_hit s (by omega) c i h (by omega)) ?_
        simp only [if_pos (show acc.length < 8796093022208 by omega)]
        rw [List.append_assoc] at ih
        exact Ev.bind (Ev.now _) ih
end Go.Proofs.YtlcablcpcbmgeaaGreatDoor.PureW
end

section
namespace Go.Proofs.YtlcablcpcbmgeaaGreatDoor.PureM
open Go.RowKit Go.Proofs.YtlcablcpcbmgeaaGreatDoorW.PrintWords Go.Proofs.YtlcablcpcbmgeaaGreatDoorW.PrintLast Go.Proofs.YtlcablcpcbmgeaaGreatDoor.P Go.Proofs.YtlcablcpcbmgeaaGreatDoor.Num Go.Proofs.YtlcablcpcbmgeaaGreatDoor.PureN Go.Proofs.YtlcablcpcbmgeaaGreatDoor.Reg
set_option linter.unusedVariables false
set_option linter.unusedSimpArgs false
theorem refMay_ev (pos pass st : Int) (l : List S23) (hl : l.length ≤ 4611686018427387904) : Ev (fun k => salvorref16_MayMap.f k pos pass st l) (mayMap pos pass st l) := by
  obtain ⟨Ka, hKa⟩ := mayref l hl
  obtain ⟨Kb, hKb⟩ := endref_ev l hl
  refine ⟨Ka + Kb, fun k hk => ?_⟩
  have ea := hKa k (by omega)
  have eb := hKb k (by omega)
  simp only at ea eb
  show salvorref16_MayMap.f k pos pass st l = some (mayMap pos pass st l)
  unfold salvorref16_MayMap.f mayMap
  rw [ea, Option.bind_some]
  cases hm : mayL 0 none l with
  | false => rfl
  | true =>
    rw [hm, if_pos rfl] at eb
    rw [if_pos rfl, Bool.true_and, eb]
    by_cases h0 : 0 ≤ pos
    · rw [if_pos (show pos ≥ 0 from h0), decide_eq_true h0, Bool.true_and, Option.bind_some]
      by_cases h1 : pos ≤ endOf 0 l
      · rw [if_pos h1, decide_eq_true h1, Bool.true_and]
        by_cases h2 : 0 ≤ pass
        · rw [if_pos (show pass ≥ 0 from h2), decide_eq_true h2, Bool.true_and]
          by_cases h3 : pass ≤ 20
          · rw [if_pos h3, decide_eq_true h3, Bool.true_and, status_eq]; rfl
          · rw [if_neg h3, decide_eq_false h3, Bool.false_and]
        · rw [if_neg (show ¬ pass ≥ 0 from h2), decide_eq_false h2, Bool.false_and]
      · rw [if_neg h1, decide_eq_false h1, Bool.false_and]
    · rw [if_neg (show ¬ pos ≥ 0 from h0), decide_eq_false h0, Bool.false_and]
end Go.Proofs.YtlcablcpcbmgeaaGreatDoor.PureM
end

section
namespace Go.Proofs.YtlcablcpcbmgeaaGreatDoor.PureM
open Go.RowKit Go.Lib Go.Proofs.YtlcablcpcbmgeaaGreatDoorW.PrintWords Go.Proofs.YtlcablcpcbmgeaaGreatDoorW.PrintLast Go.Proofs.YtlcablcpcbmgeaaGreatDoor.P
set_option linter.unusedVariables false
set_option linter.unusedSimpArgs false
def stO (fr i : Nat) : Option Nat := if fr < i then some fr else none
theorem refwords_loop (s : ByteArray) (hs : s.size ≤ 1000000) : ∀ (n i fr : Nat) (acc : List (Nat × Nat)), s.size - i = n → fr ≤ i → i ≤ s.size → acc.length ≤ i →
    Ev (fun k => salvorref16_words.l0 k s (exs s acc) (fr : Int) (i : Int)) (exs s (closeSpans s (spansB s n i (stO fr i) acc)))
  | 0, i, fr, acc, hn, hf, hi, ha => by
    obtain rfl : i = s.size := by omega
    refine ⟨3, fun k hk => ?_⟩
    obtain ⟨k, rfl⟩ : ∃ k', k = k' + 3 := ⟨k - 3, by omega⟩
    show salvorref16_words.l0 (k + 1 + 1 + 1) s (exs s acc) (fr : Int) (s.size : Int) = some _
    rw [salvorref16_words.l0, if_pos (by omega), if_pos rfl, salvorref16_words.j1, if_pos rfl]
    by_cases hlt : fr < s.size
    · rw [if_pos (by omega), if_pos (by omega), if_pos (by omega), if_pos (by omega), if_pos (by unfold exs; rw [List.length_map]; omega), ws1 _ (by omega), exs_snoc, salvorref16_words.l0, if_neg (by omega)]
      unfold stO; rw [if_pos hlt]; rfl
    · rw [if_neg (by omega), ws1 _ (by omega), salvorref16_words.l0, if_neg (by omega)]
      unfold stO; rw [if_neg hlt]; rfl
  | n + 1, i, fr, acc, hn, hf, hi, ha => by
    have hlen : (exs s acc).length < 8796093022208 := by unfold exs; rw [List.length_map]; omega
    unfold spansB
    rw [if_pos (show i < s.size by omega)]
    by_cases hb : isBl (s.get! i).toNat = true
    · rw [if_pos hb]
      have hst : ∀ k, salvorref16_words.l0 (k + 1 + 1) s (exs s acc) (fr : Int) (i : Int) = salvorref16_words.j1 (k + 1) s (exs s acc) (fr : Int) (i : Int) true := fun k => by
        rw [salvorref16_words.l0, if_pos (by omega), if_neg (by omega), if_pos (by omega), if_pos (by omega), bt_get]
        by_cases h3 : ((s.get! i).toNat : Int) = 32
        · rw [if_pos h3]
        · have h9 : ((s.get! i).toNat : Int) = 9 := by
            simp only [isBl, Bool.or_eq_true, beq_iff_eq] at hb; omega
          rw [if_neg h3, beq_iff_eq.mpr h9]
      by_cases hlt : fr < i
      · obtain ⟨K, hK⟩ := refwords_loop s hs n (i + 1) (i + 1) (acc ++ [(fr, i)]) (by omega) (Nat.le_refl _) (by omega) (by simp; omega)
        refine ⟨K + 2, fun k hk => ?_⟩
        obtain ⟨k, rfl⟩ : ∃ k', k = k' + 1 + 1 := ⟨k - 2, by omega⟩
        show salvorref16_words.l0 (k + 1 + 1) s (exs s acc) (fr : Int) (i : Int) = some _
        rw [hst k, salvorref16_words.j1, if_pos rfl, if_pos (by omega), if_pos (by omega), if_pos (by omega), if_pos (by omega), if_pos hlen, ws1 _ (by omega), exs_snoc]
        refine (hK k (by omega)).trans ?_
        unfold stO; rw [if_neg (Nat.lt_irrefl _), if_pos hlt]
      · obtain ⟨K, hK⟩ := refwords_loop s hs n (i + 1) (i + 1) acc (by omega) (Nat.le_refl _) (by omega) (by omega)
        refine ⟨K + 2, fun k hk => ?_⟩
        obtain ⟨k, rfl⟩ : ∃ k', k = k' + 1 + 1 := ⟨k - 2, by omega⟩
        show salvorref16_words.l0 (k + 1 + 1) s (exs s acc) (fr : Int) (i : Int) = some _
        rw [hst k, salvorref16_words.j1, if_pos rfl, if_neg (by omega), ws1 _ (by omega)]
        refine (hK k (by omega)).trans ?_
        unfold stO; rw [if_neg (Nat.lt_irrefl _), if_neg hlt]
    · rw [if_neg hb]
      have hst : ∀ k, salvorref16_words.l0 (k + 1 + 1) s (exs s acc) (fr : Int) (i : Int) = salvorref16_words.j1 (k + 1) s (exs s acc) (fr : Int) (i : Int) false := fun k => by
        have h32 : ¬ ((s.get! i).toNat : Int) = 32 := fun h => hb (by simp only [isBl, Bool.or_eq_true, beq_iff_eq]; omega)
        have h9 : ¬ ((s.get! i).toNat : Int) = 9 := fun h => hb (by simp only [isBl, Bool.or_eq_true, beq_iff_eq]; omega)
        rw [salvorref16_words.l0, if_pos (by omega), if_neg (by omega), if_pos (by omega), if_pos (by omega), bt_get, if_neg h32, beq_eq_false_iff_ne.mpr h9]
      obtain ⟨K, hK⟩ := refwords_loop s hs n (i + 1) fr acc (by omega) (by omega) (by omega) (by omega)
      refine ⟨K + 2, fun k hk => ?_⟩
      obtain ⟨k, rfl⟩ : ∃ k', k = k' + 1 + 1 := ⟨k - 2, by omega⟩
      show salvorref16_words.l0 (k + 1 + 1) s (exs s acc) (fr : Int) (i : Int) = some _
      rw [hst k, salvorref16_words.j1, if_neg (by simp), ws1 _ (by omega)]
      refine (hK k (by omega)).trans ?_
      have e : stO fr (i + 1) = some ((stO fr i).getD i) := by
        unfold stO; rw [if_pos (by omega)]
        by_cases hlt : fr < i
        · rw [if_pos hlt]; rfl
        · rw [if_neg hlt]; show some fr = some i; congr 1; omega
      rw [e]
theorem refwords_ev (s : ByteArray) (hs : s.size ≤ 1000000) : Ev (fun k => salvorref16_words.f k s) (goFieldsP isBl s) := by
  have h := refwords_loop s hs s.size 0 0 [] (by omega) (by omega) (by omega) (by simp)
  have e : goFieldsP isBl s = exs s (closeSpans s (spansB s s.size 0 (stO 0 0) [])) := by
    unfold goFieldsP spansOfP
    rw [spans_bytes s s.size 0 none [] (by omega)]
    rfl
  rw [e]
  exact h

end Go.Proofs.YtlcablcpcbmgeaaGreatDoor.PureM
end

section
-- names: salvorref16_words.f salvorref16_place.f salvorref16_put.f salvorref16_Parse.f salvorref6_Words.f salvorref1_GetDec.f salvorref1_GetHex.f salvorref16_status.f salvorref16_MayMap.f
namespace Go.Proofs.YtlcablcpcbmgeaaGreatDoor.PureM
open Go.RowKit Go.Lib Go.Proofs.YtlcablcpcbmgeaaGreatDoorW.PrintWords Go.Proofs.YtlcablcpcbmgeaaGreatDoorW.PrintLast Go.Proofs.YtlcablcpcbmgeaaGreatDoor.P Go.Proofs.YtlcablcpcbmgeaaGreatDoor.Num Go.Proofs.YtlcablcpcbmgeaaGreatDoor.Reg Go.Proofs.YtlcablcpcbmgeaaGreatDoor.PureN
set_option linter.unusedVariables false
set_option linter.unusedSimpArgs false
theorem refhexP (s : ByteArray) (hs : s.size ≤ 100000) : Ev (fun k => salvorref1_GetHex.f k s) (val (getHexL s.data.toList)) := refGetHex_ev s hs
theorem refdecP (s : ByteArray) (hs : s.size ≤ 100000) : Ev (fun k => salvorref1_GetDec.f k s) (val (decW s)) := by
  have h := refGetDec_ev s hs
  unfold decW getDecL
  rw [data_len]
  exact h
theorem refplaceP (s : ByteArray) (hs : s.size ≤ 100000) : Ev (fun k => salvorref16_place.f k s) (val (placeA s)) := by
  unfold salvorref16_place.f
  refine Ev.bind (refhexP s hs) ?_
  unfold placeA placeL
  cases getHexL s.data.toList with
  | some n => rw [valS]; simp only [if_true]; exact Ev.now _
  | none =>
    (simp only [valN, if_neg (show ¬ false = true by simp)])
    exact Ev.bind (refdecP s hs) (Ev.now _)
theorem put_eq {l : List S23} (h : mayL 0 none l = true) (n st : Int) (hn : 1 ≤ n) (hn2 : n ≤ 1099511627776 - endOf 0 l) : salvorref16_put.f l (endOf 0 l) (endOf 0 l + n) st = some (addP l (endOf 0 l) n st) := by
  have he := mayL_end h (by omega)
  have hw : wrap64 (endOf 0 l + n - endOf 0 l) = n := by rw [show endOf 0 l + n - endOf 0 l = n by omega]; exact wrap_in (by omega) (by omega)
  unfold salvorref16_put.f
  rw [if_neg (by omega), hw]
  generalize endOf 0 l = E at *
  rcases snoc_cases l with rfl | ⟨a, r, rfl⟩
  · rw [if_neg (by simp), if_pos (by simp), addP_nil, if_neg (by omega)]; rfl
  · obtain ⟨m1, m2, m3, m4, m5, m6, m7⟩ := may_snoc h (by omega) (by omega)
    have e1 : wrap64 (((a ++ [r]).length : Int) - 1) = (a.length : Int) := by
      rw [List.length_append, show (([r] : List S23).length) = 1 from rfl, show ((a.length + 1 : Nat) : Int) - 1 = (a.length : Int) by omega]
      simp only [List.length_append, List.length_cons, List.length_nil] at he
      exact wrap_in (by omega) (by omega)
    have hlen : (a ++ [r]).length < 5864062014805 := by
      simp only [List.length_append, List.length_cons, List.length_nil] at he ⊢; omega
    rw [if_pos (by simp only [List.length_append, List.length_cons, List.length_nil]; omega), e1, if_pos (by omega), if_pos (by simp only [List.length_append, List.length_cons, List.length_nil]; omega), rd_last]
    by_cases c : r.f2 = st
    · rw [if_pos c, addP_snoc, if_neg (show ¬ n < 1 by omega), if_pos c]
      have hw2 : wrap64 (r.f1 + n) = r.f1 + n := wrap_in (by omega) (by omega)
      rw [hw2, Int.toNat_natCast]
      simp
    · rw [if_neg c, addP_snoc, if_neg (show ¬ n < 1 by omega), if_neg c, if_pos hlen]
/-- The reference's lines behind the first one. -/
def refR (pos pass st : Int) (out : List S23) : List (List ByteArray) → Int × Int × Int × List S23 × Int
  | [] => if mayMap pos pass st out = true then (pos, pass, st, out, 0) else badR
  | w :: t => if w.length = 3 then (match regS out w with
    | some o => refR pos pass st o t
    | none => badR) else badR
def refH : List (List ByteArray) → Int × Int × Int × List S23 × Int
  | [] => badR
  | w :: t => if w.length = 3 then (match placeA (rdW w 0), decW (rdW w 2) with
    | some p, some n => if (rdW w 1).size = 1 then refR p n (bt (rdW w 1) 0) [] t else badR
    | _, _ => badR) else badR
def linesOf (t : List ByteArray) : List (List ByteArray) := (t.map (goFieldsP isBl)).filter fun w => !skipW w
theorem linesOf_cons (p : ByteArray) (t : List ByteArray) : linesOf (p :: t) = if skipW (goFieldsP isBl p) = true then linesOf t else goFieldsP isBl p :: linesOf t := by
  unfold linesOf
  rw [List.map_cons, List.filter_cons]
  cases skipW (goFieldsP isBl p) <;> rfl
theorem refstep (ps : List ByteArray) (hl : ps.length ≤ 100000) (i : Nat) (p : ByteArray) (t : List ByteArray) (hd : ps.drop i = p :: t) (hp : p.size ≤ 100000) (x6 : Bool) (at_ p0 p1 p2 : Int) (out : List S23) (r : Int × Int × Int × List S23 × Int)
    (h : Ev (fun k => salvorref16_Parse.j1 k ps x6 at_ (i : Int) (goFieldsP isBl p) (skipW (goFieldsP isBl p)) p0 p1 p2 out) r) : Ev (fun k => salvorref16_Parse.l0 k ps x6 at_ (i : Int) p0 p1 p2 out) r := by
  have hi := drop_lt hd
  have hrd := rdOf_at ps i p t hd
  have hw := word_ne p
  have hev := refwords_ev p (by omega)
  generalize goFieldsP isBl p = w at h hw hev
  have hst : ∀ k, salvorref16_Parse.l0 (k + 1) ps x6 at_ (i : Int) p0 p1 p2 out = (salvorref16_words.f k p).bind fun t267 => (if (t267.length : Int) = 0 then (salvorref16_Parse.j1 k ps x6 at_ (i : Int) t267 true p0 p1 p2 out) else (if 0 < (t267.length : Int) then (if 0 < ((rdOf ByteArray.empty t267 0).size : Int) then (salvorref16_Parse.j1 k ps x6 at_ (i : Int) t267 ((bt (rdOf ByteArray.empty t267 0) 0) == 35) p0 p1 p2 out) else (none)) else (none))) := fun k => by
    rw [salvorref16_Parse.l0, if_pos (by omega), if_pos (by omega), hrd]
  refine Ev.step hst ?_
  refine Ev.bind hev ?_
  cases w with
  | nil => exact h
  | cons a b =>
    have ha := (hw a (List.mem_cons_self ..)).1
    have h0 : rdOf ByteArray.empty (a :: b) 0 = a := rfl
    refine Ev.congr (fun k => ?_) h
    rw [if_neg (by simp only [List.length_cons]; omega), if_pos (by simp only [List.length_cons]; omega), h0, if_pos (by omega)]
    unfold skipW
    rw [h0]; rfl
theorem ref_loop (ps : List ByteArray) (hl : ps.length ≤ 100000) (hs : ∀ p ∈ ps, p.size ≤ 100000) (pos pass st : Int) : ∀ (t : List ByteArray) (i : Nat) (out : List S23), ps.drop i = t → mayL 0 none out = true → out.length ≤ i →
    Ev (fun k => salvorref16_Parse.l0 k ps true (endOf 0 out) (i : Int) pos pass st out) (refR pos pass st out (linesOf t))
  | [], i, out, hd, hm, ho => by
    have hi := drop_nil_ge hd
    have e : linesOf [] = [] := rfl
    rw [e, refR]
    have hst : ∀ k, salvorref16_Parse.l0 (k + 1) ps true (endOf 0 out) (i : Int) pos pass st out = (salvorref16_MayMap.f k pos pass st out).bind fun t265 => (if t265 = true then (some (pos, pass, st, out, 0)) else (some (0, 0, 0, ([] : List (S23)), 6))) := fun k => by
      rw [salvorref16_Parse.l0, if_neg (by omega), if_pos rfl]
    refine Ev.step hst (Ev.bind (refMay_ev pos pass st out (by have := mayL_end hm (by omega); omega)) ?_)
    cases mayMap pos pass st out with
    | true => simp only [if_true]; exact Ev.now _
    | false => simp only [if_neg (show ¬ false = true by simp)]; exact Ev.now _
  | p :: t, i, out, hd, hm, ho => by
    have hi := drop_lt hd
    have hp : p.size ≤ 100000 := hs p (List.mem_of_mem_drop (i := i) (by rw [hd]; exact List.mem_cons_self ..))
    have hws : wrap64 ((i : Int) + 1) = ((i + 1 : Nat) : Int) := by unfold wrap64; omega
    refine refstep ps hl i p t hd hp true _ pos pass st out _ ?_
    rw [linesOf_cons]
    have hw := word_ne p
    generalize goFieldsP isBl p = w at hw ⊢
    cases hsk : skipW w with
    | true =>
      rw [if_pos rfl]
      refine Ev.step (fun k => ?_) (ref_loop ps hl hs pos pass st t (i + 1) out (drop_succ hd) hm (by omega))
      rw [salvorref16_Parse.j1, if_pos rfl, hws]
    | false =>
      rw [if_neg (by simp), refR]
      by_cases h3 : w.length = 3
      · rw [if_pos h3]
        obtain ⟨⟨a0, a1⟩, ⟨b0, b1⟩, ⟨c0, c1⟩⟩ := three_at (w := w) ⟨h3, fun x hx => ⟨(hw x hx).1, by have := (hw x hx).2; omega⟩⟩
        have hE := (mayL_end hm (by omega)).2
        have hE0 := (mayL_end hm (by omega)).1
        have hst : ∀ k, salvorref16_Parse.j1 (k + 1) ps true (endOf 0 out) (i : Int) w false pos pass st out = (salvorref16_place.f k (rdW w 0)).bind fun a => (salvorref16_place.f k (rdW w 1)).bind fun b => (if a.2 = true then (if b.2 = true then (if ((rdW w 2).size : Int) = 1 then (if isS (bt (rdW w 2) 0) = true then (if a.1 = endOf 0 out then (if b.1 < 1 then (some (0, 0, 0, ([] : List (S23)), 6)) else (if b.1 > 1099511627776 - endOf 0 out then (some (0, 0, 0, ([] : List (S23)), 6)) else ((salvorref16_put.f out (endOf 0 out) (wrap64 (endOf 0 out + b.1)) (bt (rdW w 2) 0)).bind fun t286 => (salvorref16_Parse.l0 k ps true (wrap64 (endOf 0 out + b.1)) ((i + 1 : Nat) : Int) pos pass st t286)))) else (some (0, 0, 0, ([] : List (S23)), 6))) else (some (0, 0, 0, ([] : List (S23)), 6))) else (some (0, 0, 0, ([] : List (S23)), 6))) else (some (0, 0, 0, ([] : List (S23)), 6))) else (some (0, 0, 0, ([] : List (S23)), 6))) := fun k => by
          rw [salvorref16_Parse.j1, if_neg (by simp), if_pos (by omega), if_pos (by omega)]
          have hwr : wrap64 (1099511627776 - endOf 0 out) = 1099511627776 - endOf 0 out := wrap_in (by omega) (by omega)
          simp only [if_true, if_pos (show 1 < (w.length : Int) by omega), if_pos (show 2 < (w.length : Int) by omega), if_pos (show 0 < ((rdOf ByteArray.empty w 2).size : Int) by have : 0 < (rdW w 2).size := c0; unfold rdW at this; omega), hws, status_eq, Option.bind_some, hwr]
          rfl
        refine Ev.step hst (Ev.bind (refplaceP _ a1) (Ev.bind (refplaceP _ b1) ?_))
        have hS : regS out w = (placeA (rdW w 0)).bind fun p => (placeA (rdW w 1)).bind fun n => (stP (rdW w 2)).bind fun st => if (p : Int) = endOf 0 out then if 1 ≤ (n : Int) then if (n : Int) ≤ 1099511627776 - (p : Int) then some (addP out (endOf 0 out) n st) else none else none else none := rfl
        cases hp0 : placeA (rdW w 0) with
        | none =>
          rw [hp0] at hS
          rw [show regS out w = none from hS]
          (simp only [valN, if_neg (show ¬ false = true by simp)])
          exact Ev.now _
        | some q =>
          cases hn : placeA (rdW w 1) with
          | none =>
            rw [hp0, hn] at hS
            rw [show regS out w = none from hS]
            (rw [valS, valN]; simp only [if_true, if_neg (show ¬ false = true by simp)])
            exact Ev.now _
          | some n =>
            rw [hp0, hn] at hS
            simp only [Option.bind_some] at hS
            (first | rw [valS, valS] | rw [valS]); simp only [if_true]
            by_cases d1 : (rdW w 2).size = 1
            · by_cases d2 : isS (bt (rdW w 2) 0) = true
              · have hsp : stP (rdW w 2) = some (bt (rdW w 2) 0) := by unfold stP; rw [if_pos d1, if_pos d2]
                rw [hsp] at hS
                simp only [Option.bind_some] at hS
                simp only [if_pos (show ((rdW w 2).size : Int) = 1 by omega), if_pos d2]
                by_cases d3 : (q : Int) = endOf 0 out
                · simp only [if_pos d3]
                  rw [if_pos d3] at hS
                  by_cases d4 : (n : Int) < 1
                  · simp only [if_pos d4]
                    rw [if_neg (by omega)] at hS
                    rw [hS]; exact Ev.now _
                  · simp only [if_neg d4]
                    rw [if_pos (by omega)] at hS
                    by_cases d5 : (n : Int) > 1099511627776 - endOf 0 out
                    · simp only [if_pos d5]
                      rw [if_neg (by omega)] at hS
                      rw [hS]; exact Ev.now _
                    · simp only [if_neg d5]
                      rw [if_pos (by omega)] at hS
                      have hwr2 : wrap64 (endOf 0 out + (n : Int)) = endOf 0 out + n := wrap_in (by omega) (by omega)
                      rw [hwr2, put_eq hm (n : Int) _ (by omega) (by omega), hS]
                      simp only [Option.bind_some]
                      obtain ⟨m1, m2⟩ := regS_may hS hm
                      have hend : endOf 0 (addP out (endOf 0 out) (n : Int) (bt (rdW w 2) 0)) = endOf 0 out + n := by
                        have := (addP_may hm rfl (fun _ => d2) (by omega : (n : Int) ≤ 1099511627776 - endOf 0 out)).2.1
                        rw [this, if_neg (by omega)]
                      have := ref_loop ps hl hs pos pass st t (i + 1) _ (drop_succ hd) m1 (by omega)
                      rw [hend] at this
                      exact this
                · simp only [if_neg d3]
                  rw [if_neg d3] at hS
                  rw [hS]; exact Ev.now _
              · have hsp : stP (rdW w 2) = none := by unfold stP; rw [if_pos d1, if_neg d2]
                rw [hsp] at hS
                rw [show regS out w = none from hS]
                simp only [if_pos (show ((rdW w 2).size : Int) = 1 by omega), if_neg d2]
                exact Ev.now _
            · have hsp : stP (rdW w 2) = none := by unfold stP; rw [if_neg d1]
              rw [hsp] at hS
              rw [show regS out w = none from hS]
              simp only [if_neg (show ¬ ((rdW w 2).size : Int) = 1 by omega)]
              exact Ev.now _
      · rw [if_neg h3]
        refine Ev.step (f := fun _ => some badR) (fun k => ?_) (Ev.now _)
        rw [salvorref16_Parse.j1, if_neg (by simp), if_neg (by omega)]; rfl
theorem ref_head (ps : List ByteArray) (hl : ps.length ≤ 100000) (hs : ∀ p ∈ ps, p.size ≤ 100000) : ∀ (t : List ByteArray) (i : Nat), ps.drop i = t →
    Ev (fun k => salvorref16_Parse.l0 k ps false 0 (i : Int) 0 0 0 []) (refH (linesOf t))
  | [], i, hd => by
    have hi := drop_nil_ge hd
    have e : linesOf [] = [] := rfl
    rw [e, refH]
    refine Ev.step (f := fun _ => some badR) (fun k => ?_) (Ev.now _)
    rw [salvorref16_Parse.l0, if_neg (by omega), if_neg (by simp)]; rfl
  | p :: t, i, hd => by
    have hi := drop_lt hd
    have hp : p.size ≤ 100000 := hs p (List.mem_of_mem_drop (i := i) (by rw [hd]; exact List.mem_cons_self ..))
    have hws : wrap64 ((i : Int) + 1) = ((i + 1 : Nat) : Int) := by unfold wrap64; omega
    refine refstep ps hl i p t hd hp false _ 0 0 0 [] _ ?_
    rw [linesOf_cons]
    have hw := word_ne p
    generalize goFieldsP isBl p = w at hw ⊢
    cases hsk : skipW w with
    | true =>
      rw [if_pos rfl]
      refine Ev.step (fun k => ?_) (ref_head ps hl hs t (i + 1) (drop_succ hd))
      rw [salvorref16_Parse.j1, if_pos rfl, hws]
    | false =>
      rw [if_neg (by simp), refH]
      by_cases h3 : w.length = 3
      · rw [if_pos h3]
        obtain ⟨⟨a0, a1⟩, ⟨b0, b1⟩, ⟨c0, c1⟩⟩ := three_at (w := w) ⟨h3, fun x hx => ⟨(hw x hx).1, by have := (hw x hx).2; omega⟩⟩
        have hst : ∀ k, salvorref16_Parse.j1 (k + 1) ps false 0 (i : Int) w false 0 0 0 [] = (salvorref16_place.f k (rdW w 0)).bind fun a => (salvorref1_GetDec.f k (rdW w 2)).bind fun b => (if a.2 = true then (if b.2 = true then (if ((rdW w 1).size : Int) = 1 then (salvorref16_Parse.l0 k ps true 0 ((i + 1 : Nat) : Int) a.1 b.1 (bt (rdW w 1) 0) []) else (some (0, 0, 0, ([] : List (S23)), 6))) else (some (0, 0, 0, ([] : List (S23)), 6))) else (some (0, 0, 0, ([] : List (S23)), 6))) := fun k => by
          rw [salvorref16_Parse.j1, if_neg (by simp), if_pos (by omega), if_pos (by omega)]
          simp only [if_neg (show ¬ false = true by simp), if_pos (show 1 < (w.length : Int) by omega), if_pos (show 2 < (w.length : Int) by omega), if_pos (show 0 < ((rdOf ByteArray.empty w 1).size : Int) by have : 0 < (rdW w 1).size := b0; unfold rdW at this; omega), hws]
          rfl
        refine Ev.step hst (Ev.bind (refplaceP _ a1) (Ev.bind (refdecP _ c1) ?_))
        cases hp0 : placeA (rdW w 0) with
        | none => (simp only [valN, if_neg (show ¬ false = true by simp)]); exact Ev.now _
        | some q =>
          cases hn : decW (rdW w 2) with
          | none => (rw [valS, valN]; simp only [if_true, if_neg (show ¬ false = true by simp)]); exact Ev.now _
          | some n =>
            (first | rw [valS, valS] | rw [valS]); simp only [if_true]
            by_cases d1 : (rdW w 1).size = 1
            · simp only [if_pos d1, if_pos (show ((rdW w 1).size : Int) = 1 by omega)]
              exact ref_loop ps hl hs q n (bt (rdW w 1) 0) t (i + 1) [] (drop_succ hd) rfl (by simp)
            · simp only [if_neg d1, if_neg (show ¬ ((rdW w 1).size : Int) = 1 by omega)]
              exact Ev.now _
      · rw [if_neg h3]
        refine Ev.step (f := fun _ => some badR) (fun k => ?_) (Ev.now _)
        rw [salvorref16_Parse.j1, if_neg (by simp), if_neg (by omega)]; rfl
theorem refR_eq (pos pass st : Int) : ∀ (t : List (List ByteArray)) (out : List S23), refR pos pass st out t = if t.all (fun w => decide (w.length = 3)) = true then (match regL out t with
    | some l => if mayMap pos pass st l = true then (pos, pass, st, l, 0) else badR
    | none => badR) else badR
  | [], out => rfl
  | w :: t, out => by
    rw [refR, List.all_cons, regL]
    by_cases h3 : w.length = 3
    · rw [if_pos h3, decide_eq_true h3, Bool.true_and]
      cases regS out w with
      | none =>
        by_cases c : t.all (fun w => decide (w.length = 3)) = true
        · rw [if_pos c]; rfl
        · rw [if_neg c]
      | some o => exact refR_eq pos pass st t o
    · rw [if_neg h3, decide_eq_false h3, Bool.false_and, if_neg (by simp)]
theorem refH_eq : ∀ (ls : List (List ByteArray)), refH ls = resL ls
  | [] => rfl
  | w :: t => by
    unfold resL
    rw [refH, List.all_cons, mapL]
    unfold headW
    by_cases h3 : w.length = 3
    · rw [if_pos h3, decide_eq_true h3, Bool.true_and]
      by_cases c : t.all (fun w => decide (w.length = 3)) = true
      · rw [if_pos c]
        cases placeA (rdW w 0) with
        | none => rfl
        | some p =>
          cases decW (rdW w 2) with
          | none => cases stP (rdW w 1) <;> rfl
          | some n =>
            simp only [Option.bind_some]
            rw [refR_eq, if_pos c]
            by_cases d1 : (rdW w 1).size = 1
            · rw [if_pos d1]
              by_cases d2 : isS (bt (rdW w 1) 0) = true
              · rw [show stP (rdW w 1) = some (bt (rdW w 1) 0) by unfold stP; rw [if_pos d1, if_pos d2]]
                simp only [Option.bind_some]
                cases regL [] t with
                | none => rfl
                | some l =>
                  simp only [Option.bind_some]
                  cases mayMap (p : Int) (n : Int) (bt (rdW w 1) 0) l <;> rfl
              · rw [show stP (rdW w 1) = none by unfold stP; rw [if_pos d1, if_neg d2]]
                cases regL [] t with
                | none => rfl
                | some l =>
                  have : mayMap (p : Int) (n : Int) (bt (rdW w 1) 0) l = false := by
                    unfold mayMap
                    rw [Bool.not_eq_true] at d2
                    rw [d2]; simp
                  simp only [this, if_neg (show ¬ false = true by simp)]
                  rfl
            · rw [if_neg d1, show stP (rdW w 1) = none by unfold stP; rw [if_neg d1]]
              rfl
      · rw [if_neg c]
        cases placeA (rdW w 0) with
        | none => rfl
        | some p =>
          cases decW (rdW w 2) with
          | none => rfl
          | some n =>
            simp only []
            rw [refR_eq, if_neg c]
            split <;> rfl
    · rw [if_neg h3, decide_eq_false h3, Bool.false_and, if_neg (by simp)]
/-- What the reference answers. -/
theorem refparse_ev (s : ByteArray) (hs : s.size ≤ 40000) : Ev (fun k => salvorref16_Parse.f k s) (resL (linesW s.data.toList)) := by
  obtain ⟨h1, h2⟩ := pieces_ok s
  unfold salvorref16_Parse.f
  simp only [if_neg (show ¬ (s.size : Int) > 40000 by omega)]
  have hw : Ev (fun k => salvorref6_Words.f k s 10) (piecesB s) := by
    have := PureW.words_ref 10 _ s (by omega) rfl [] (by
      have hc := Lib.countB_le ⟨#[10]⟩ (by decide) s.size s (Nat.le_refl _)
      simp only [List.length_nil]; omega)
    rw [List.nil_append] at this
    exact this
  refine Ev.bind hw ?_
  have h := ref_head (piecesB s) (by omega) (fun p hp => by have := h2 p hp; omega) (piecesB s) 0 rfl
  rw [refH_eq, show linesOf (piecesB s) = linesW s.data.toList from lines_bytes s] at h
  exact h
end Go.Proofs.YtlcablcpcbmgeaaGreatDoor.PureM
end

section
-- names: salvorref16_SameMap.f salvorref16_SameRegions.f salvorlaw17_MapRuns.f
namespace Go.Proofs.YtlcablcpcbmgeaaGreatDoor.PureM
open Go.RowKit Go.Lib Go.Proofs.YtlcablcpcbmgeaaGreatDoorW.PrintWords Go.Proofs.YtlcablcpcbmgeaaGreatDoorW.PrintLast Go.Proofs.YtlcablcpcbmgeaaGreatDoor.P Go.Proofs.YtlcablcpcbmgeaaGreatDoor.Num Go.Proofs.YtlcablcpcbmgeaaGreatDoor.Reg
set_option linter.unusedVariables false
set_option linter.unusedSimpArgs false
theorem runsM_ev : Ev (fun k => salvorlaw17_MapRuns.f k) true := by
  obtain ⟨k, h⟩ := Pure.MapRuns
  exact Ev.of salvorlaw17_MapRuns.mono h
theorem sameM_ev (a b c : Int) (l : List S23) (hl : l.length ≤ 4611686018427387904) : Ev (fun k => salvorref16_SameMap.f k a b c l a b c l) true := by
  unfold salvorref16_SameMap.f
  simp only [if_true]
  exact Ev.bind (same_self l hl) (Ev.now _)
/-- What is answered: a map that may be, or none. -/
theorem resL_cases (ls : List (List ByteArray)) : resL ls = badR ∨ ∃ pos pass st l, resL ls = (pos, pass, st, l, 0) ∧ mayMap pos pass st l = true ∧ l.length ≤ ls.length := by
  unfold resL
  by_cases h : ls.all (fun w => decide (w.length = 3)) = true
  · rw [if_pos h]
    cases hm : mapL ls with
    | none => exact .inl rfl
    | some a =>
      obtain ⟨pos, pass, st, l⟩ := a
      refine .inr ⟨pos, pass, st, l, rfl, ?_⟩
      cases ls with
      | nil => cases hm
      | cons w t =>
        rw [mapL] at hm
        obtain ⟨⟨p, n, s⟩, _, hm⟩ := Option.bind_eq_some_iff.1 hm
        obtain ⟨l', hl, hm⟩ := Option.bind_eq_some_iff.1 hm
        by_cases c : mayMap p n s l' = true
        · simp only [if_pos c] at hm
          obtain ⟨rfl, rfl, rfl, rfl⟩ : p = pos ∧ n = pass ∧ s = st ∧ l' = l := by simpa using hm
          refine ⟨c, ?_⟩
          have := (regL_may t [] l' hl rfl).2
          simp only [List.length_nil, List.length_cons] at this ⊢; omega
        · simp only [if_neg c] at hm; cases hm
  · rw [if_neg h]; exact .inl rfl
end Go.Proofs.YtlcablcpcbmgeaaGreatDoor.PureM
end
