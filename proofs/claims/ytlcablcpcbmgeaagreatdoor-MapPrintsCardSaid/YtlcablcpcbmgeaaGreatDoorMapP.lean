/- Plain laws of maps: which may be, and their texts. No program in sight. No conditions beyond those that the lemmas name. -/
import Derived.Test.YtlcablcpcbmgeaaGreatDoorPx0
import Derived.Test.YtlcablcpcbmgeaaGreatDoorPx2
import Derived.Test.YtlcablcpcbmgeaaGreatDoorPx3
import Derived.Test.YtlcablcpcbmgeaaGreatDoorPx4
import Derived.Test.YtlcablcpcbmgeaaGreatDoorPx5
import Derived.Test.YtlcablcpcbmgeaaGreatDoorPx6
import Derived.Test.YtlcablcpcbmgeaaGreatDoorPx9
import Derived.Test.YtlcablcpcbmgeaaGreatDoorPx10
import Derived.Test.YtlcablcpcbmgeaaGreatDoorPx23
import Derived.Test.YtlcablcpcbmgeaaGreatDoorPx24
import Derived.Test.YtlcablcpcbmgeaaGreatDoorPx25
import Derived.Test.YtlcablcpcbmgeaaGreatDoorPx26
import Derived.Test.YtlcablcpcbmgeaaGreatDoorPx27
import Derived.Test.YtlcablcpcbmgeaaGreatDoorPx28
import Derived.Test.YtlcablcpcbmgeaaGreatDoorMapB
import Derived.Test.YtlcablcpcbmgeaaGreatDoorRegAr
import Derived.Test.YtlcablcpcbmgeaaGreatDoorOpzT
-- names: maptext_May.f salvorref16_MayMap.f maptext_Print.f salvorref16_Print.f num_Hex.f num_Dec.f salvorref1_Hex.f salvorref1_Dec.f region_May.f region_End.f salvorref16_End.f salvorref16_MayRegions.f salvorref16_status.f region_Is.f
namespace Go.Proofs.YtlcablcpcbmgeaaGreatDoor.PureM
open Go.RowKit Go.Proofs.YtlcablcpcbmgeaaGreatDoorW.PrintWords Go.Proofs.YtlcablcpcbmgeaaGreatDoorW.PrintLast Go.Proofs.YtlcablcpcbmgeaaGreatDoor.P Go.Proofs.YtlcablcpcbmgeaaGreatDoor.Num Go.Proofs.YtlcablcpcbmgeaaGreatDoor.PureN Go.Proofs.YtlcablcpcbmgeaaGreatDoor.Reg
set_option linter.unusedVariables false
set_option linter.unusedSimpArgs false
def mayMap (pos pass st : Int) (l : List S23) : Bool := mayL 0 none l && (decide (0 ≤ pos) && (decide (pos ≤ endOf 0 l) && (decide (0 ≤ pass) && (decide (pass ≤ 20) && isS st))))
theorem mayMap_ev (pos pass st : Int) (l : List S23) (hl : l.length ≤ 4611686018427387904) : Ev (fun k => maptext_May.f k pos pass st l) (mayMap pos pass st l) := by
  obtain ⟨Ka, hKa⟩ := may l hl
  obtain ⟨Kb, hKb⟩ := end_ev l hl
  refine ⟨Ka + Kb, fun k hk => ?_⟩
  have ea := hKa k (by omega)
  have eb := hKb k (by omega)
  simp only at ea eb
  show maptext_May.f k pos pass st l = some (mayMap pos pass st l)
  unfold maptext_May.f mayMap
  rw [ea, Option.bind_some]
  cases hm : mayL 0 none l with
  | false => rfl
  | true =>
    rw [hm, if_pos rfl] at eb
    rw [if_pos rfl, Bool.true_and, eb]
    by_cases h0 : 0 ≤ pos
    · rw [if_pos (show pos ≥ 0 from h0), decide_eq_true h0, Bool.true_and, Option.bind_some]
      by_cases h1 : pos ≤ endOf 0 l
      · rw [if_pos h1, decide_eq_true h1, Bool.true_and]
        by_cases h2 : 0 ≤ pass
        · rw [if_pos (show pass ≥ 0 from h2), decide_eq_true h2, Bool.true_and]
          by_cases h3 : pass ≤ 20
          · rw [if_pos h3, decide_eq_true h3, Bool.true_and, is_eq]; rfl
          · rw [if_neg h3, decide_eq_false h3, Bool.false_and]
        · rw [if_neg (show ¬ pass ≥ 0 from h2), decide_eq_false h2, Bool.false_and]
      · rw [if_neg h1, decide_eq_false h1, Bool.false_and]
    · rw [if_neg (show ¬ pos ≥ 0 from h0), decide_eq_false h0, Bool.false_and]
theorem refMay_ev (pos pass st : Int) (l : List S23) (hl : l.length ≤ 4611686018427387904) : Ev (fun k => salvorref16_MayMap.f k pos pass st l) (mayMap pos pass st l) := by
  obtain ⟨Ka, hKa⟩ := mayref l hl
  obtain ⟨Kb, hKb⟩ := endref_ev l hl
  refine ⟨Ka + Kb, fun k hk => ?_⟩
  have ea := hKa k (by omega)
  have eb := hKb k (by omega)
  simp only at ea eb
  show salvorref16_MayMap.f k pos pass st l = some (mayMap pos pass st l)
  unfold salvorref16_MayMap.f mayMap
  rw [ea, Option.bind_some]
  cases hm : mayL 0 none l with
  | false => rfl
  | true =>
    rw [hm, if_pos rfl] at eb
    rw [if_pos rfl, Bool.true_and, eb]
    by_cases h0 : 0 ≤ pos
    · rw [if_pos (show pos ≥ 0 from h0), decide_eq_true h0, Bool.true_and, Option.bind_some]
      by_cases h1 : pos ≤ endOf 0 l
      · rw [if_pos h1, decide_eq_true h1, Bool.true_and]
        by_cases h2 : 0 ≤ pass
        · rw [if_pos (show pass ≥ 0 from h2), decide_eq_true h2, Bool.true_and]
          by_cases h3 : pass ≤ 20
          · rw [if_pos h3, decide_eq_true h3, Bool.true_and, status_eq]; rfl
          · rw [if_neg h3, decide_eq_false h3, Bool.false_and]
        · rw [if_neg (show ¬ pass ≥ 0 from h2), decide_eq_false h2, Bool.false_and]
      · rw [if_neg h1, decide_eq_false h1, Bool.false_and]
    · rw [if_neg (show ¬ pos ≥ 0 from h0), decide_eq_false h0, Bool.false_and]
/-! the texts -/
def hexA (n : Int) : ByteArray := ⟨(hexT n.toNat).toArray⟩
def decA (n : Int) : ByteArray := ⟨(Lib.itoa n).toArray⟩
def spB : ByteArray := ⟨#[32]⟩
def nlB : ByteArray := ⟨#[10]⟩
def rowT (r : S23) : ByteArray := hexA r.f0 ++ spB ++ hexA r.f1 ++ spB ++ stB r.f2 ++ nlB
def rowsT (acc : ByteArray) (l : List S23) : ByteArray := l.foldl (fun a r => a ++ rowT r) acc
def headT (pos pass st : Int) : ByteArray := (⟨#[35, 32, 115, 97, 108, 118, 111, 114, 10]⟩ : ByteArray) ++ hexA pos ++ spB ++ stB st ++ spB ++ decA pass ++ nlB
def mapT (pos pass st : Int) (l : List S23) : ByteArray := if mayMap pos pass st l = true then if 40000 < (rowsT (headT pos pass st) l).size then ⟨#[]⟩ else rowsT (headT pos pass st) l else ⟨#[]⟩
theorem line3 (a b c : ByteArray) : lineB [a, b, c] = a ++ spB ++ b ++ spB ++ c ++ nlB := by
  apply ByteArray.ext
  apply Array.ext'
  simp [lineB, Lib.join, spB, nlB]
theorem line2 : lineB [⟨#[35]⟩, ⟨#[115, 97, 108, 118, 111, 114]⟩] = (⟨#[35, 32, 115, 97, 108, 118, 111, 114, 10]⟩ : ByteArray) := by decide +kernel
theorem app_assoc (a b c : ByteArray) : a ++ b ++ c = a ++ (b ++ c) := ByteArray.append_assoc
theorem head_eq (pos pass st : Int) : headB (hexA pos) (decA pass) st = headT pos pass st := by
  unfold headB headT
  rw [line2, line3]
  simp only [app_assoc]
theorem hex_len (n : Int) (h0 : 0 ≤ n) (h1 : n ≤ 1099511627776) : (hexA n).size ≤ 100 := by
  have h2 := hexl_len 10 n.toNat (by omega)
  show (hexT n.toNat).toArray.size ≤ 100
  rw [List.size_toArray, hexT_eq]
  simp only [List.length_append, List.length_replicate, upper_len, List.length_cons, List.length_nil]
  omega
theorem dec_lenA (n : Int) (h0 : 0 ≤ n) (h1 : n ≤ 1099511627776) : (decA n).size ≤ 100 := by
  have := itoa_len n (by omega) (by omega)
  show (Lib.itoa n).toArray.size ≤ 100
  rw [List.size_toArray]; omega
theorem isS_ok {c : Int} (h : isS c = true) : stOk c := by
  simp only [isS, Bool.or_eq_true, beq_iff_eq] at h
  unfold stOk; omega
theorem hexP (n : Int) (h0 : 0 ≤ n) (h1 : n ≤ 1099511627776) : num_Hex.f n = some (hexA n) := by
  rw [hex_f n (by omega), if_neg (by omega)]; rfl
theorem decP (n : Int) (h0 : 0 ≤ n) (h1 : n ≤ 1099511627776) : num_Dec.f n = some (decA n) := itoa_f n (by omega) (by omega)
theorem rows_eq : ∀ (l : List S23) (e : Int) (p : Option Int) (acc : ByteArray), mayL e p l = true → 0 ≤ e → e ≤ 1099511627776 → rowsB l acc = some (rowsT acc l)
  | [], _, _, _, _, _, _ => rfl
  | r :: l, e, p, acc, h, h0, h1 => by
    obtain ⟨e0, e1, e2, e3, _, e5⟩ := mayL_cons h
    unfold rowsB
    rw [hexP r.f0 (by omega) (by omega), hexP r.f1 (by omega) (by omega)]
    simp only [Option.bind_some]
    rw [if_pos ⟨by have := hex_len r.f0 (by omega) (by omega); omega, by have := hex_len r.f1 (by omega) (by omega); omega, isS_ok e3⟩, rows_eq l _ _ _ e5 (by omega) (by omega), line3]
    rfl
theorem print_ev (pos pass st : Int) (l : List S23) (hl : l.length ≤ 100000) : Ev (fun k => maptext_Print.f k pos pass st l) (mapT pos pass st l) := by
  show Ev (fun k => printF k pos pass st l) _
  unfold printF mapT
  refine Ev.bind (mayMap_ev pos pass st l (by omega)) ?_
  by_cases hm : mayMap pos pass st l = true
  · rw [if_pos hm, if_pos hm]
    simp only [mayMap, Bool.and_eq_true, decide_eq_true_eq] at hm
    obtain ⟨m0, m1, m2, m3, m4, m5⟩ := hm
    have he := (mayL_end m0 (by omega)).2
    rw [hexP pos m1 (by omega), decP pass m3 (by omega)]
    simp only [Option.bind_some]
    rw [if_pos ⟨by have := hex_len pos m1 (by omega); omega, by have := dec_lenA pass m3 (by omega); omega, isS_ok m5, hl⟩, rows_eq l 0 none _ m0 (by omega) (by omega), head_eq]
    exact Ev.now _
  · rw [if_neg hm, if_neg hm]; exact Ev.now _
theorem rows_mono (l : List S23) : ∀ acc : ByteArray, acc.size ≤ (rowsT acc l).size := by
  induction l with
  | nil => intro acc; exact Nat.le_refl _
  | cons r l ih =>
    intro acc
    refine Nat.le_trans ?_ (ih (acc ++ rowT r))
    rw [ByteArray.size_append]; omega
theorem st_size (s : Int) : (stB s).size = 1 := rfl
theorem sp_size : spB.size = 1 := rfl
theorem nl_size : nlB.size = 1 := rfl
theorem refloop (pos pass st : Int) (l : List S23) (hlen : l.length ≤ 100000) : ∀ (t : List S23) (i : Nat) (e : Int) (p : Option Int) (acc : ByteArray), l.drop i = t → mayL e p t = true → 0 ≤ e → e ≤ 1099511627776 → acc.size ≤ 40000 →
    Ev (fun k => salvorref16_Print.l0 k acc (i : Int) pos pass st l) (if 40000 < (rowsT acc t).size then ⟨#[]⟩ else rowsT acc t)
  | [], i, e, p, acc, hd, h, h0, h1, ha => by
    have hi := drop_nil_ge hd
    have hn : ¬ 40000 < (rowsT acc []).size := by show ¬ 40000 < acc.size; omega
    rw [if_neg hn]
    refine ⟨1, fun k hk => ?_⟩
    obtain ⟨k, rfl⟩ : ∃ k', k = k' + 1 := ⟨k - 1, by omega⟩
    show salvorref16_Print.l0 (k + 1) acc (i : Int) pos pass st l = some acc
    rw [salvorref16_Print.l0, if_neg (by omega)]
  | r :: t, i, e, p, acc, hd, h, h0, h1, ha => by
    obtain ⟨e0, e1, e2, e3, _, e5⟩ := mayL_cons h
    have hi := drop_lt hd
    have hrd := rd_at l i r t hd
    have hs0 := hex_len r.f0 (by omega) (by omega)
    have hs1 := hex_len r.f1 (by omega) (by omega)
    obtain ⟨Ka, hKa⟩ := refhex_ev r.f0 (by omega) (by omega)
    obtain ⟨Kb, hKb⟩ := refhex_ev r.f1 (by omega) (by omega)
    have hacc : acc ++ rowT r = ((((acc ++ hexA r.f0) ++ spB) ++ hexA r.f1) ++ spB) ++ stB r.f2 ++ nlB := by unfold rowT; simp only [app_assoc]
    have hst : strOfNums ([r.f2] : List Int) = stB r.f2 := rfl
    have hw : wrap64 ((i : Int) + 1) = ((i + 1 : Nat) : Int) := by unfold wrap64; omega
    have step : ∀ k, Ka ≤ k → Kb ≤ k → salvorref16_Print.l0 (k + 1) acc (i : Int) pos pass st l = if ((acc ++ rowT r).size : Int) > 40000 then some ⟨#[]⟩ else salvorref16_Print.l0 k (acc ++ rowT r) ((i + 1 : Nat) : Int) pos pass st l := by
      intro k h1' h2'
      have ea : salvorref1_Hex.f k r.f0 = some (hexA r.f0) := hKa k h1'
      have eb : salvorref1_Hex.f k r.f1 = some (hexA r.f1) := hKb k h2'
      rw [salvorref16_Print.l0, if_pos (by omega), if_pos (by omega), hrd, ea, Option.bind_some, if_pos (by omega), if_pos (by rw [ByteArray.size_append]; omega), eb, Option.bind_some,
        if_pos (by rw [ByteArray.size_append, ByteArray.size_append]; show _ + 1 + _ ≤ _; omega),
        if_pos (by rw [ByteArray.size_append, ByteArray.size_append, ByteArray.size_append]; show _ + 1 + _ + 1 ≤ _; omega), Option.bind_some, hst,
        if_pos (by rw [ByteArray.size_append, ByteArray.size_append, ByteArray.size_append, ByteArray.size_append]; show _ + 1 + _ + 1 + 1 ≤ _; omega),
        if_pos (by rw [ByteArray.size_append, ByteArray.size_append, ByteArray.size_append, ByteArray.size_append, ByteArray.size_append]; show _ + 1 + _ + 1 + 1 + 1 ≤ _; omega), hw, hacc]
      rfl
    have hrow : rowsT acc (r :: t) = rowsT (acc ++ rowT r) t := rfl
    rw [hrow]
    by_cases hb : 40000 < (acc ++ rowT r).size
    · rw [if_pos (Nat.lt_of_lt_of_le hb (rows_mono t _))]
      refine ⟨Ka + Kb + 1, fun k hk => ?_⟩
      obtain ⟨k, rfl⟩ : ∃ k', k = k' + 1 := ⟨k - 1, by omega⟩
      show salvorref16_Print.l0 (k + 1) acc (i : Int) pos pass st l = some ⟨#[]⟩
      rw [step k (by omega) (by omega), if_pos (by omega)]
    · obtain ⟨Kc, hKc⟩ := refloop pos pass st l hlen t (i + 1) _ _ (acc ++ rowT r) (drop_succ hd) e5 (by omega) (by omega) (by omega)
      refine ⟨Ka + Kb + Kc + 1, fun k hk => ?_⟩
      obtain ⟨k, rfl⟩ : ∃ k', k = k' + 1 := ⟨k - 1, by omega⟩
      show salvorref16_Print.l0 (k + 1) acc (i : Int) pos pass st l = some _
      rw [step k (by omega) (by omega), if_neg (by omega)]
      exact hKc k (by omega)
theorem refprint_ev (pos pass st : Int) (l : List S23) (hl : l.length ≤ 100000) : Ev (fun k => salvorref16_Print.f k pos pass st l) (mapT pos pass st l) := by
  obtain ⟨Km, hKm⟩ := refMay_ev pos pass st l (by omega)
  by_cases hm : mayMap pos pass st l = true
  · have hT : mapT pos pass st l = if 40000 < (rowsT (headT pos pass st) l).size then ⟨#[]⟩ else rowsT (headT pos pass st) l := if_pos hm
    rw [hT]
    have hm2 := hm
    simp only [mayMap, Bool.and_eq_true, decide_eq_true_eq] at hm2
    obtain ⟨m0, m1, m2, m3, m4, m5⟩ := hm2
    have he := (mayL_end m0 (by omega)).2
    have hs0 := hex_len pos m1 (by omega)
    have hs1 := dec_lenA pass m3 (by omega)
    have hst : strOfNums ([st] : List Int) = stB st := rfl
    have hh : headT pos pass st = (((((⟨#[35, 32, 115, 97, 108, 118, 111, 114, 10]⟩ : ByteArray) ++ hexA pos) ++ spB) ++ stB st) ++ spB) ++ decA pass ++ nlB := rfl
    have h9 : (⟨#[35, 32, 115, 97, 108, 118, 111, 114, 10]⟩ : ByteArray).size = 9 := rfl
    have hhs : (headT pos pass st).size ≤ 40000 := by
      rw [hh]
      simp only [ByteArray.size_append, h9, sp_size, st_size, nl_size]
      omega
    obtain ⟨Ka, hKa⟩ := refhex_ev pos m1 (by omega)
    obtain ⟨Kb, hKb⟩ := refdec_ev pass (by omega) (by omega)
    obtain ⟨Kc, hKc⟩ := refloop pos pass st l hl l 0 0 none (headT pos pass st) rfl m0 (by omega) (by omega) hhs
    refine ⟨Km + Ka + Kb + Kc, fun k hk => ?_⟩
    have em : salvorref16_MayMap.f k pos pass st l = some true := (hKm k (by omega)).trans (by rw [hm])
    have ea : salvorref1_Hex.f k pos = some (hexA pos) := hKa k (by omega)
    have eb : salvorref1_Dec.f k pass = some (decA pass) := hKb k (by omega)
    have ec := hKc k (by omega)
    show salvorref16_Print.f k pos pass st l = some _
    have e32 : (⟨#[32]⟩ : ByteArray) = spB := rfl
    have e10 : (⟨#[10]⟩ : ByteArray) = nlB := rfl
    rw [salvorref16_Print.f, em, Option.bind_some, if_pos rfl, ea, Option.bind_some, e32, e10, if_pos (by omega), if_pos (by simp only [ByteArray.size_append, h9]; omega), Option.bind_some, hst,
      if_pos (by simp only [ByteArray.size_append, h9, sp_size, st_size]; omega), if_pos (by simp only [ByteArray.size_append, h9, sp_size, st_size]; omega), eb, Option.bind_some,
      if_pos (by simp only [ByteArray.size_append, h9, sp_size, st_size]; omega), if_pos (by simp only [ByteArray.size_append, h9, sp_size, st_size]; omega), ← hh]
    exact ec
  · have hT : mapT pos pass st l = ⟨#[]⟩ := if_neg hm
    rw [hT]
    refine ⟨Km, fun k hk => ?_⟩
    have em : salvorref16_MayMap.f k pos pass st l = some false := (hKm k hk).trans (by rw [Bool.eq_false_iff.mpr hm])
    show salvorref16_Print.f k pos pass st l = some _
    rw [salvorref16_Print.f, em, Option.bind_some]
    rfl
end Go.Proofs.YtlcablcpcbmgeaaGreatDoor.PureM
