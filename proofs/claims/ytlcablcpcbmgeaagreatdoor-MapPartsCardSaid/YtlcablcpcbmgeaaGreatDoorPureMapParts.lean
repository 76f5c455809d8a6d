/- The pure statement of MapParts: a region may be written in two parts; one that is left out, moved, or of another size is none. No conditions. -/
import Derived.Test.YtlcablcpcbmgeaaGreatDoorPx0
import Derived.Test.YtlcablcpcbmgeaaGreatDoorPx6
import Derived.Test.YtlcablcpcbmgeaaGreatDoorPx21
import Derived.Test.YtlcablcpcbmgeaaGreatDoorPx22
import Derived.Test.YtlcablcpcbmgeaaGreatDoorPx23
import Derived.Test.YtlcablcpcbmgeaaGreatDoorPx42
import Derived.Test.YtlcablcpcbmgeaaGreatDoorMapK
import Derived.Test.YtlcablcpcbmgeaaGreatDoorMapD
import Derived.Test.YtlcablcpcbmgeaaGreatDoorPureMapRuns
import Derived.Test.YtlcablcpcbmgeaaGreatDoorOpen
-- names: salvorlaw17_MapParts.f salvorlaw17_MapRuns.f num_Dec.f salvorref16_SameMap.f maptext_Parse.f
namespace Go.Proofs.YtlcablcpcbmgeaaGreatDoor.Pure
open Go.RowKit Go.Lib Go.Proofs.YtlcablcpcbmgeaaGreatDoorW.PrintWords Go.Proofs.YtlcablcpcbmgeaaGreatDoorW.PrintLast Go.Proofs.YtlcablcpcbmgeaaGreatDoorW.PrintMore Go.Proofs.YtlcablcpcbmgeaaGreatDoor.P Go.Proofs.YtlcablcpcbmgeaaGreatDoor.Open Go.Proofs.YtlcablcpcbmgeaaGreatDoor.PureM Go.Proofs.YtlcablcpcbmgeaaGreatDoor.Reg Go.Proofs.YtlcablcpcbmgeaaGreatDoor.Num
set_option linter.unusedVariables false
set_option linter.unusedSimpArgs false
theorem runsP_ev : Ev (fun k => salvorlaw17_MapRuns.f k) true := by
  obtain ⟨k, h⟩ := MapRuns
  exact Ev.of salvorlaw17_MapRuns.mono h
theorem sameP_ev (a b c : Int) (l : List S23) (hl : l.length ≤ 4611686018427387904) : Ev (fun k => salvorref16_SameMap.f k a b c l a b c l) true := by
  unfold salvorref16_SameMap.f
  simp only [if_true]
  exact Ev.bind (same_self l hl) (Ev.now _)
/-! the texts -/
def dA (n : Int) : ByteArray := ofL (decDigits n.toNat)
abbrev sA (s : Int) : ByteArray := strOfNums [s]
def b1 : ByteArray := ⟨#[32]⟩
def b2 : ByteArray := ⟨#[10]⟩
def lineA (r : S23) : ByteArray := ((((dA r.f0 ++ b1) ++ dA r.f1) ++ b1) ++ sA r.f2) ++ b2
def twoA (r : S23) : ByteArray := ((((((((dA r.f0 ++ ⟨#[32, 49, 32]⟩) ++ sA r.f2) ++ b2) ++ dA (r.f0 + 1)) ++ b1) ++ dA (r.f1 - 1)) ++ b1) ++ sA r.f2) ++ b2
def partA (r : S23) : ByteArray := if 1 < r.f1 then twoA r else lineA r
def wrongA (how : Int) (u : ByteArray) (r : S23) : ByteArray := if how = 0 then (((u ++ dA (r.f0 + 1)) ++ b1) ++ dA r.f1) ++ ⟨#[32, 43, 10]⟩ else if how = 1 then ((u ++ dA r.f0) ++ ⟨#[32, 48, 32, 43, 10]⟩) ++ partA r
  else if how = 2 then (((u ++ dA r.f0) ++ b1) ++ dA r.f1) ++ ⟨#[32, 120, 10]⟩ else ((u ++ partA r) ++ dA r.f0) ++ ⟨#[32, 49, 32, 43, 10]⟩
theorem dF (n : Int) (h0 : 0 ≤ n) (h1 : n ≤ 1000) : num_Dec.f n = some (dA n) := by
  rw [PureN.itoa_f n (by omega) (by omega), itoa_nn h0]; rfl
theorem dA_size (n : Int) (h0 : 0 ≤ n) (h1 : n ≤ 999) : (dA n).size ≤ 3 := by
  have := dec_len 2 n.toNat (by omega)
  show (decDigits n.toNat).toArray.size ≤ 3
  rw [List.size_toArray]; exact this
theorem sA_size (s : Int) : (sA s).size = 1 := rfl
theorem b1_size : b1.size = 1 := rfl
theorem b2_size : b2.size = 1 := rfl
theorem dA_data (n : Int) : (dA n).data.toList = decDigits n.toNat := data_ofL _
theorem sA_data (s : Int) : (sA s).data.toList = [stU s] := rfl
theorem b1_data : b1.data.toList = [32] := rfl
theorem b2_data : b2.data.toList = [10] := rfl
theorem ap_data (a b : ByteArray) : (a ++ b).data.toList = a.data.toList ++ b.data.toList := by simp
def Ok (r : S23) : Prop := 0 ≤ r.f0 ∧ r.f0 ≤ 255 ∧ 1 ≤ r.f1 ∧ r.f1 ≤ 255 ∧ isS r.f2 = true
theorem line_data (r : S23) : (lineA r).data.toList = wrsD (whole r) := by
  simp [lineA, wrsD, whole, wrD, dA_data, sA_data, b1_data, b2_data]
theorem dec1 : decDigits 1 = [49] := by rw [dec_lt (by omega)]; rfl
theorem dec0 : decDigits 0 = [48] := by rw [dec_lt (by omega)]; rfl
theorem part_data (r : S23) : (partA r).data.toList = wrsD (parts r) := by
  unfold partA parts
  by_cases h : 1 < r.f1
  · rw [if_pos h, if_pos h]
    simp [twoA, wrsD, wrD, dA_data, sA_data, b1_data, b2_data, dec1]
  · rw [if_neg h, if_neg h]; exact line_data r
theorem wrong_data (how : Nat) (u : ByteArray) (r : S23) : (wrongA how u r).data.toList = u.data.toList ++ wrsD (wrong how r) := by
  unfold wrongA wrong
  by_cases c0 : how = 0
  · rw [if_pos (by omega), if_pos c0]
    simp [wrsD, wrD, dA_data, b1_data]
  by_cases c1 : how = 1
  · rw [if_neg (by omega), if_pos (by omega), if_neg c0, if_pos c1]
    rw [ap_data, part_data]
    simp [wrsD, wrD, dA_data, dec0]
  by_cases c2 : how = 2
  · rw [if_neg (by omega), if_neg (by omega), if_pos (by omega), if_neg c0, if_neg c1, if_pos c2]
    simp [wrsD, wrD, dA_data, b1_data]
  · rw [if_neg (by omega), if_neg (by omega), if_neg (by omega), if_neg c0, if_neg c1, if_neg c2]
    rw [ap_data, ap_data, ap_data, part_data]
    simp [wrsD, wrD, dA_data, dec1]
theorem line_size (r : S23) (h : Ok r) : (lineA r).size ≤ 10 := by
  obtain ⟨h0, h1, h2, h3, h4⟩ := h
  have e0 := dA_size r.f0 h0 (by omega)
  have e1 := dA_size r.f1 (by omega) (by omega)
  unfold lineA
  simp only [ByteArray.size_append, b1_size, b2_size, sA_size]; omega
theorem part_size (r : S23) (h : Ok r) : (partA r).size ≤ 25 := by
  unfold partA
  by_cases c : 1 < r.f1
  · rw [if_pos c]
    obtain ⟨h0, h1, h2, h3, h4⟩ := h
    have e0 := dA_size r.f0 h0 (by omega)
    have e1 := dA_size (r.f0 + 1) (by omega) (by omega)
    have e2 := dA_size (r.f1 - 1) (by omega) (by omega)
    unfold twoA
    simp only [ByteArray.size_append, b1_size, b2_size, sA_size, show (⟨#[32, 49, 32]⟩ : ByteArray).size = 3 from rfl]; omega
  · rw [if_neg c]
    have := line_size r h; omega
theorem wrong_size (how : Int) (u : ByteArray) (r : S23) (h : Ok r) : (wrongA how u r).size ≤ u.size + 40 := by
  have hp := part_size r h
  obtain ⟨h0, h1, h2, h3, h4⟩ := h
  have e0 := dA_size r.f0 h0 (by omega)
  have e1 := dA_size (r.f0 + 1) (by omega) (by omega)
  have e2 := dA_size r.f1 (by omega) (by omega)
  unfold wrongA
  split
  · simp only [ByteArray.size_append, b1_size, show (⟨#[32, 43, 10]⟩ : ByteArray).size = 3 from rfl]; omega
  split
  · simp only [ByteArray.size_append, b1_size, show (⟨#[32, 48, 32, 43, 10]⟩ : ByteArray).size = 5 from rfl]; omega
  split
  · simp only [ByteArray.size_append, b1_size, show (⟨#[32, 120, 10]⟩ : ByteArray).size = 3 from rfl]; omega
  · simp only [ByteArray.size_append, b1_size, show (⟨#[32, 49, 32, 43, 10]⟩ : ByteArray).size = 5 from rfl]; omega
/-! the loop -/
theorem step_other (k : Nat) (how at_ : Int) (s u : ByteArray) (i : Nat) (T : List S23) (r : S23) (t : List S23) (hd : T.drop i = r :: t) (hr : Ok r) (hs : s.size ≤ 100000) (hu : u.size ≤ 100000) (hl : T.length ≤ 1000) (hne : ¬ (i : Int) = at_) :
    salvorlaw17_MapParts.l0 (k + 1) how at_ s u (i : Int) 0 0 43 T = salvorlaw17_MapParts.l0 k how at_ (s ++ lineA r) (u ++ lineA r) ((i + 1 : Nat) : Int) 0 0 43 T := by
  have hi := drop_lt hd
  have hrd := rd_at T i r t hd
  have hz := line_size r hr
  have hws : wrap64 ((i : Int) + 1) = ((i + 1 : Nat) : Int) := by unfold wrap64; omega
  obtain ⟨h0, h1, h2, h3, h4⟩ := hr
  have e0 := dA_size r.f0 h0 (by omega)
  have e1 := dA_size r.f1 (by omega) (by omega)
  rw [salvorlaw17_MapParts.l0, if_pos (by omega), if_pos (by omega), hrd, dF r.f0 h0 (by omega), dF r.f1 (by omega) (by omega)]
  simp only [Option.bind_some]
  rw [if_pos (by omega), if_pos (by simp only [ByteArray.size_append, show (⟨#[32]⟩ : ByteArray).size = 1 from rfl]; omega), if_pos (by simp only [ByteArray.size_append, show (⟨#[32]⟩ : ByteArray).size = 1 from rfl]; omega), if_pos (by simp only [ByteArray.size_append, show (⟨#[32]⟩ : ByteArray).size = 1 from rfl, sA_size]; omega), if_pos (by simp only [ByteArray.size_append, show (⟨#[32]⟩ : ByteArray).size = 1 from rfl, sA_size]; omega), if_neg hne]
  change (if s.size + (lineA r).size ≤ 9223372036854775807 then (if u.size + (lineA r).size ≤ 9223372036854775807 then salvorlaw17_MapParts.l0 k how at_ (s ++ lineA r) (u ++ lineA r) (wrap64 ((i : Int) + 1)) 0 0 43 T else none) else none) = _
  rw [if_pos (by omega), if_pos (by omega), hws]
theorem step_at (k : Nat) (how at_ : Int) (s u : ByteArray) (i : Nat) (T : List S23) (r : S23) (t : List S23) (hd : T.drop i = r :: t) (hr : Ok r) (hl : T.length ≤ 1000) (he : (i : Int) = at_) :
    salvorlaw17_MapParts.l0 (k + 1) how at_ s u (i : Int) 0 0 43 T = salvorlaw17_MapParts.j2 k how at_ s u (i : Int) (partA r) 0 0 43 T r.f0 r.f1 r.f2 := by
  have hi := drop_lt hd
  have hrd := rd_at T i r t hd
  obtain ⟨h0, h1, h2, h3, h4⟩ := hr
  have e0 := dA_size r.f0 h0 (by omega)
  have e1 := dA_size r.f1 (by omega) (by omega)
  rw [salvorlaw17_MapParts.l0, if_pos (by omega), if_pos (by omega), hrd, dF r.f0 h0 (by omega), dF r.f1 (by omega) (by omega)]
  simp only [Option.bind_some]
  rw [if_pos (by omega), if_pos (by simp only [ByteArray.size_append, show (⟨#[32]⟩ : ByteArray).size = 1 from rfl]; omega), if_pos (by simp only [ByteArray.size_append, show (⟨#[32]⟩ : ByteArray).size = 1 from rfl]; omega), if_pos (by simp only [ByteArray.size_append, show (⟨#[32]⟩ : ByteArray).size = 1 from rfl, sA_size]; omega), if_pos (by simp only [ByteArray.size_append, show (⟨#[32]⟩ : ByteArray).size = 1 from rfl, sA_size]; omega), if_pos he]
  unfold partA
  by_cases c : 1 < r.f1
  · have e2 := dA_size (r.f0 + 1) (by omega) (by omega)
    have e3 := dA_size (r.f1 - 1) (by omega) (by omega)
    have hw1 : wrap64 (r.f0 + 1) = r.f0 + 1 := wrap_in (by omega) (by omega)
    have hw2 : wrap64 (r.f1 - 1) = r.f1 - 1 := wrap_in (by omega) (by omega)
    rw [if_pos (show r.f1 > 1 from c), if_pos c, hw1, hw2, dF (r.f0 + 1) (by omega) (by omega), dF (r.f1 - 1) (by omega) (by omega)]
    simp only [Option.bind_some]
    rw [if_pos (by omega)]
    iterate 7 rw [if_pos (by simp only [ByteArray.size_append, show (⟨#[32]⟩ : ByteArray).size = 1 from rfl, show (⟨#[10]⟩ : ByteArray).size = 1 from rfl, show (⟨#[32, 49, 32]⟩ : ByteArray).size = 3 from rfl, sA_size]; omega)]
    try rw [if_pos (by simp only [ByteArray.size_append, show (⟨#[32]⟩ : ByteArray).size = 1 from rfl, show (⟨#[10]⟩ : ByteArray).size = 1 from rfl, show (⟨#[32, 49, 32]⟩ : ByteArray).size = 3 from rfl, sA_size]; omega)]
    rfl
  · rw [if_neg (show ¬ r.f1 > 1 from c), if_neg c]
    rfl
theorem step_two (k : Nat) (h3 at_ : Int) (s u : ByteArray) (i : Nat) (T : List S23) (r : S23) (hr : Ok r) (hs : s.size ≤ 100000) (hu : u.size ≤ 100000) (hi : i < T.length) (hl : T.length ≤ 1000) :
    salvorlaw17_MapParts.j2 (k + 1) h3 at_ s u (i : Int) (partA r) 0 0 43 T r.f0 r.f1 r.f2 = salvorlaw17_MapParts.l0 k h3 at_ (s ++ partA r) (wrongA (Int.tmod h3 4) u r) ((i + 1 : Nat) : Int) 0 0 43 T := by
  have hz := part_size r hr
  have hws : wrap64 ((i : Int) + 1) = ((i + 1 : Nat) : Int) := by unfold wrap64; omega
  obtain ⟨h0, h1, h2, h3', h4⟩ := hr
  have e0 := dA_size r.f0 h0 (by omega)
  have e1 := dA_size r.f1 (by omega) (by omega)
  have e2 := dA_size (r.f0 + 1) (by omega) (by omega)
  have hw1 : wrap64 (r.f0 + 1) = r.f0 + 1 := wrap_in (by omega) (by omega)
  rw [salvorlaw17_MapParts.j2, if_pos (by omega), hw1, dF r.f0 h0 (by omega), dF r.f1 (by omega) (by omega), dF (r.f0 + 1) (by omega) (by omega), hws]
  simp only [Option.bind_some]
  unfold wrongA
  by_cases c0 : Int.tmod h3 4 = 0
  · rw [if_pos c0, if_pos c0]
    iterate 4 rw [if_pos (by first | omega | (simp only [ByteArray.size_append, show (⟨#[32]⟩ : ByteArray).size = 1 from rfl]; omega))]
    rfl
  rw [if_neg c0, if_neg c0]
  by_cases c1 : Int.tmod h3 4 = 1
  · rw [if_pos c1, if_pos c1]
    iterate 3 rw [if_pos (by first | omega | (simp only [ByteArray.size_append, show (⟨#[32, 48, 32, 43, 10]⟩ : ByteArray).size = 5 from rfl]; omega))]
  rw [if_neg c1, if_neg c1]
  by_cases c2 : Int.tmod h3 4 = 2
  · rw [if_pos c2, if_pos c2]
    iterate 4 rw [if_pos (by first | omega | (simp only [ByteArray.size_append, show (⟨#[32]⟩ : ByteArray).size = 1 from rfl]; omega))]
    rfl
  rw [if_neg c2, if_neg c2]
  iterate 3 rw [if_pos (by first | omega | (simp only [ByteArray.size_append]; omega))]
def hdD : List UInt8 := [48, 32, 43, 32, 48, 10]
def hdW : List ByteArray := [ofL [48], ofL [43], ofL [48]]
theorem head_lines (l : List (Nat × Nat × UInt8)) (h : ∀ x ∈ l, 36 ≤ x.2.2.toNat) : linesW (hdD ++ wrsD l) = hdW :: wrs l := by
  have e := linesW_row (u := [48]) (v := [43]) (w := [48]) ⟨by simp, by decide⟩ ⟨by simp, by decide⟩ ⟨by simp, by decide⟩ (wrsD l)
  rw [wrs_lines l h] at e
  exact e
theorem all_three (l : List (Nat × Nat × UInt8)) : (hdW :: wrs l).all (fun w => decide (w.length = 3)) = true := by
  unfold wrs
  simp [hdW, wr, Function.comp_def]
theorem good_res (l : List (Nat × Nat × UInt8)) (T : List S23) (hm : mayL 0 none T = true) (h : regL [] (wrs l) = some T) : resL (hdW :: wrs l) = (0, 0, 43, T, 0) := by
  have he := (mayL_end hm (by omega)).1
  have hmm : mayMap 0 0 43 T = true := by
    unfold mayMap
    rw [hm, decide_eq_true (show 0 ≤ endOf 0 T by omega)]; rfl
  have := mapL_back (x := hdW) hmm ⟨by decide +kernel, by decide +kernel, by decide +kernel⟩ h (Int.le_refl 0) (Int.le_refl 0)
  unfold resL
  rw [if_pos (all_three l), this]
theorem bad_res (l : List (Nat × Nat × UInt8)) (h : regL [] (wrs l) = none) : resL (hdW :: wrs l) = badR := by
  unfold resL
  rw [if_pos (all_three l), mapL, h]
  cases headW hdW <;> rfl
theorem st_big {s : Int} (h : isS s = true) : 36 ≤ (stU s).toNat := (st_byte h).1.2 _ (List.mem_cons_self ..)
theorem parts_big (k : Nat) : ∀ (t : List S23) (i : Nat), (∀ r ∈ t, Ok r) → ∀ x ∈ partsX k i t, 36 ≤ x.2.2.toNat
  | [], i, _, x, hx => by cases hx
  | r :: t, i, h, x, hx => by
    have hb := st_big (h r (List.mem_cons_self ..)).2.2.2.2
    rw [partsX] at hx
    rcases List.mem_append.1 hx with hx | hx
    · unfold parts whole at hx
      split at hx
      · split at hx
        · simp at hx; rcases hx with rfl | rfl <;> exact hb
        · simp at hx; subst hx; exact hb
      · simp at hx; subst hx; exact hb
    · exact parts_big k t (i + 1) (fun y hy => h y (List.mem_cons_of_mem _ hy)) x hx
theorem wrong_big (how k : Nat) : ∀ (t : List S23) (i : Nat), (∀ r ∈ t, Ok r) → ∀ x ∈ wrongX how k i t, 36 ≤ x.2.2.toNat
  | [], i, _, x, hx => by cases hx
  | r :: t, i, h, x, hx => by
    have hb := st_big (h r (List.mem_cons_self ..)).2.2.2.2
    rw [wrongX] at hx
    rcases List.mem_append.1 hx with hx | hx
    · have hp : ∀ y ∈ parts r, 36 ≤ y.2.2.toNat := by
        intro y hy
        unfold parts whole at hy
        split at hy
        · simp at hy; rcases hy with rfl | rfl <;> exact hb
        · simp at hy; subst hy; exact hb
      unfold wrong whole at hx
      split at hx
      · split at hx
        · simp at hx; subst hx; exact (by decide : 36 ≤ (43 : UInt8).toNat)
        split at hx
        · rcases List.mem_cons.1 hx with rfl | hx
          · exact (by decide : 36 ≤ (43 : UInt8).toNat)
          · exact hp x hx
        split at hx
        · simp at hx; subst hx; exact (by decide : 36 ≤ (120 : UInt8).toNat)
        · rcases List.mem_append.1 hx with hx | hx
          · exact hp x hx
          · simp at hx; subst hx; exact (by decide : 36 ≤ (43 : UInt8).toNat)
      · simp at hx; subst hx; exact hb
    · exact wrong_big how k t (i + 1) (fun y hy => h y (List.mem_cons_of_mem _ hy)) x hx
theorem wrsD_app (a b : List (Nat × Nat × UInt8)) : wrsD (a ++ b) = wrsD a ++ wrsD b := List.flatMap_append ..
theorem parts_loop (how : Nat) (h3 : Int) (hh : Int.tmod h3 4 = (how : Int)) (kk : Nat) (T : List S23) (hm : mayL 0 none T = true) (hok : ∀ r ∈ T, Ok r) (hl : T.length ≤ 300) (hk : kk < T.length) : ∀ (t : List S23) (i : Nat) (s u : ByteArray) (A B : List (Nat × Nat × UInt8)), T.drop i = t → i ≤ T.length →
    s.data.toList = hdD ++ wrsD A → A ++ partsX kk i t = partsX kk 0 T → u.data.toList = hdD ++ wrsD B → B ++ wrongX how kk i t = wrongX how kk 0 T → s.size ≤ 6 + 50 * i → u.size ≤ 6 + 50 * i →
    Ev (fun k => salvorlaw17_MapParts.l0 k h3 (kk : Int) s u (i : Int) 0 0 43 T) true
  | [], i, s, u, A, B, hd, hi, hsd, hA, hud, hB, hs, hu => by
    have hge := drop_nil_ge hd
    rw [partsX, List.append_nil] at hA
    rw [wrongX, List.append_nil] at hB
    have hst : ∀ k, salvorlaw17_MapParts.l0 (k + 1) h3 (kk : Int) s u (i : Int) 0 0 43 T = ((maptext_Parse.f k s).bind fun bt422 => ((maptext_Parse.f k u).bind fun bt430 => (if bt422.2.2.2.2 = 0 then ((salvorref16_SameMap.f k bt422.1 bt422.2.1 bt422.2.2.1 bt422.2.2.2.1 0 0 43 T).bind fun t438 => (if t438 = true then (if bt430.2.2.2.2 = 6 then ((salvorlaw17_MapRuns.f k).bind fun t439 => (some t439)) else (some false)) else (some false))) else (some false)))) := fun k => by
      rw [salvorlaw17_MapParts.l0, if_neg (by omega)]
    have p1 := parse_ev s (by omega)
    rw [hsd, hA, head_lines _ (parts_big kk T 0 hok), good_res _ T hm (by have := parts_back kk T 0 [] (by rw [List.nil_append]; exact hm); rw [List.nil_append] at this; exact this)] at p1
    have p2 := parse_ev u (by omega)
    rw [hud, hB, head_lines _ (wrong_big how kk T 0 hok), bad_res _ (wrong_none how kk T 0 [] (Nat.zero_le _) (by omega) (by rw [List.nil_append]; exact hm))] at p2
    refine Ev.step hst (Ev.bind p1 (Ev.bind p2 ?_))
    simp only [if_true]
    refine Ev.bind (sameP_ev 0 0 43 T (by omega)) ?_
    simp only [if_true]
    rw [show badR = (0, 0, 0, [], 6) from rfl]
    simp only [if_true]
    exact Ev.bind runsP_ev (Ev.now _)
  | r :: t, i, s, u, A, B, hd, hi, hsd, hA, hud, hB, hs, hu => by
    have hlt := drop_lt hd
    have hr : Ok r := hok r (List.mem_of_mem_drop (i := i) (by rw [hd]; exact List.mem_cons_self ..))
    rw [partsX, ← List.append_assoc] at hA
    rw [wrongX, ← List.append_assoc] at hB
    by_cases he : i = kk
    · rw [if_pos he] at hA hB
      refine Ev.step (fun k => step_at k h3 (kk : Int) s u i T r t hd hr (by omega) (by omega)) ?_
      refine Ev.step (fun k => step_two k h3 (kk : Int) s u i T r hr (by omega) (by omega) hlt (by omega)) ?_
      rw [hh]
      have z1 := part_size r hr
      have z2 := wrong_size (how : Int) u r hr
      exact parts_loop how h3 hh kk T hm hok hl hk t (i + 1) _ _ _ _ (drop_succ hd) (by omega) (by rw [ap_data, hsd, part_data, List.append_assoc, ← wrsD_app]) hA (by rw [wrong_data, hud, List.append_assoc, ← wrsD_app]) hB (by rw [ByteArray.size_append]; omega) (by omega)
    · rw [if_neg he] at hA hB
      refine Ev.step (fun k => step_other k h3 (kk : Int) s u i T r t hd hr (by omega) (by omega) (by omega) (by omega)) ?_
      have z1 := line_size r hr
      exact parts_loop how h3 hh kk T hm hok hl hk t (i + 1) _ _ _ _ (drop_succ hd) (by omega) (by rw [ap_data, hsd, line_data, List.append_assoc, ← wrsD_app]) hA (by rw [ap_data, hud, line_data, List.append_assoc, ← wrsD_app]) hB (by rw [ByteArray.size_append]; omega) (by rw [ByteArray.size_append]; omega)
theorem ok_all : ∀ (l : List S23) (e : Int) (p : Option Int), mayL e p l = true → 0 ≤ e → endOf e l ≤ 255 → ∀ r ∈ l, Ok r
  | [], _, _, _, _, _ => fun r h => by cases h
  | q :: l, e, p, h, h0, h1 => by
    obtain ⟨e0, e1, e2, e3, _, e5⟩ := mayL_cons h
    have h1' : endOf (e + q.f1) l ≤ 255 := h1
    have hb := (mayL_end e5 (by omega)).1
    intro r hr
    rcases List.mem_cons.1 hr with rfl | hr
    · exact ⟨by omega, by omega, e1, by omega, e3⟩
    · exact ok_all l _ _ e5 (by omega) h1' r hr
theorem MapParts : ∀ (x0 : Int) (x1 : List S75) (x2 x3 : Int), (Lit.int .u8 x0).wf = true → (∀ x_ ∈ x1, WF75 x_) → (Lit.int .u8 x2).wf = true → (Lit.int .u8 x3).wf = true → ∃ k, salvorlaw17_MapParts.f k x0 x1 x2 x3 = some true := by
  intro n cs at_ how w0 w1 w2 w3
  have r0 := u8_range w0
  have r2 := u8_range w2
  have r3 := u8_range w3
  refine Ev.rounds ?_
  have hj : Ev (fun k => salvorlaw17_MapParts.j0 k n cs at_ how true) true := Ev.step (fun k => by rw [salvorlaw17_MapParts.j0, if_pos rfl]) (Ev.bind runsP_ev (Ev.now _))
  unfold salvorlaw17_MapParts.f
  by_cases hb : (cs.length : Int) > 20
  · simp only [if_pos hb]; exact hj
  · simp only [if_neg hb]
    by_cases hn : n = 0
    · subst hn; exact hj
    · rw [show (n == 0) = false from beq_eq_false_iff_ne.mpr hn]
      obtain ⟨T, hT, hm, hE⟩ := made_ev n r0.1 r0.2 cs (fun c hc => ⟨u8_range (w1 c hc).1, u8_range (w1 c hc).2.1, u8_range (w1 c hc).2.2⟩) (by omega)
      have hlen := (mayL_end hm (by omega)).1
      have hpos : 0 < T.length := by
        cases T with
        | nil => simp [endOf] at hE; omega
        | cons a b => simp
      refine Ev.step (fun k => by rw [salvorlaw17_MapParts.j0, if_neg (by simp)]) ?_
      refine Ev.bind hT ?_
      simp only [if_neg (show ¬ (T.length : Int) = 0 by omega)]
      have hw : wrap64 at_ = at_ := wrap_in (by omega) (by omega)
      obtain ⟨kk, hkk⟩ : ∃ kk : Nat, Int.tmod at_ (T.length : Int) = (kk : Int) ∧ kk < T.length := by
        rw [Int.tmod_eq_emod_of_nonneg r2.1]
        have a1 := Int.emod_nonneg at_ (show (T.length : Int) ≠ 0 by omega)
        have a2 := Int.emod_lt_of_pos at_ (show 0 < (T.length : Int) by omega)
        exact ⟨(at_ % (T.length : Int)).toNat, by omega, by omega⟩
      obtain ⟨hw4, hhow⟩ : ∃ h : Nat, Int.tmod how 4 = (h : Int) := by
        rw [Int.tmod_eq_emod_of_nonneg r3.1]
        exact ⟨(how % 4).toNat, by omega⟩
      rw [hw, hkk.1]
      exact parts_loop hw4 how hhow kk T hm (ok_all T 0 none hm (by omega) (by omega)) (by omega) hkk.2 T 0 _ _ [] [] rfl (Nat.zero_le _) rfl rfl rfl rfl (by decide) (by decide)
end Go.Proofs.YtlcablcpcbmgeaaGreatDoor.Pure
