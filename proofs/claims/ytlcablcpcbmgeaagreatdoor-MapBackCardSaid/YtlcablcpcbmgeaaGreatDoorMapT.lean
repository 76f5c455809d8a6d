/- Plain laws of maps: which may be, and their texts. No program in sight. No conditions beyond those that the lemmas name. Plain laws of a map's text: what is printed is read again. No program in sight. No conditions beyond those that the lemmas name. -/
import Derived.Test.YtlcablcpcbmgeaaGreatDoorPx0
import Derived.Test.YtlcablcpcbmgeaaGreatDoorPx6
import Derived.Test.YtlcablcpcbmgeaaGreatDoorPx9
import Derived.Test.YtlcablcpcbmgeaaGreatDoorPx10
import Derived.Test.YtlcablcpcbmgeaaGreatDoorMapS
import Derived.Test.YtlcablcpcbmgeaaGreatDoorOpzD
section
namespace Go.Proofs.YtlcablcpcbmgeaaGreatDoor.PureM
open Go.RowKit Go.Proofs.YtlcablcpcbmgeaaGreatDoorW.PrintWords Go.Proofs.YtlcablcpcbmgeaaGreatDoorW.PrintLast Go.Proofs.YtlcablcpcbmgeaaGreatDoor.P Go.Proofs.YtlcablcpcbmgeaaGreatDoor.Num Go.Proofs.YtlcablcpcbmgeaaGreatDoor.PureN Go.Proofs.YtlcablcpcbmgeaaGreatDoor.Reg
set_option linter.unusedVariables false
set_option linter.unusedSimpArgs false
/-! the texts -/
def hexA (n : Int) : ByteArray := ⟨(hexT n.toNat).toArray⟩
def decA (n : Int) : ByteArray := ⟨(Lib.itoa n).toArray⟩
def spB : ByteArray := ⟨#[32]⟩
def nlB : ByteArray := ⟨#[10]⟩
def rowT (r : S23) : ByteArray := hexA r.f0 ++ spB ++ hexA r.f1 ++ spB ++ stB r.f2 ++ nlB
def rowsT (acc : ByteArray) (l : List S23) : ByteArray := l.foldl (fun a r => a ++ rowT r) acc
def headT (pos pass st : Int) : ByteArray := (⟨#[35, 32, 115, 97, 108, 118, 111, 114, 10]⟩ : ByteArray) ++ hexA pos ++ spB ++ stB st ++ spB ++ decA pass ++ nlB
def mapT (pos pass st : Int) (l : List S23) : ByteArray := if mayMap pos pass st l = true then if 40000 < (rowsT (headT pos pass st) l).size then ⟨#[]⟩ else rowsT (headT pos pass st) l else ⟨#[]⟩
theorem line3 (a b c : ByteArray) : lineB [a, b, c] = a ++ spB ++ b ++ spB ++ c ++ nlB := by
  apply ByteArray.ext
  apply Array.ext'
  simp [lineB, Lib.join, spB, nlB]
theorem line2 : lineB [⟨#[35]⟩, ⟨#[115, 97, 108, 118, 111, 114]⟩] = (⟨#[35, 32, 115, 97, 108, 118, 111, 114, 10]⟩ : ByteArray) := by decide +kernel
theorem app_assoc (a b c : ByteArray) : a ++ b ++ c = a ++ (b ++ c) := ByteArray.append_assoc
theorem head_eq (pos pass st : Int) : headB (hexA pos) (decA pass) st = headT pos pass st := by
  unfold headB headT
  rw [line2, line3]
  simp only [app_assoc]
theorem hex_len (n : Int) (h0 : 0 ≤ n) (h1 : n ≤ 1099511627776) : (hexA n).size ≤ 100 := by
  have h2 := hexl_len 10 n.toNat (by omega)
  show (hexT n.toNat).toArray.size ≤ 100
  rw [List.size_toArray, hexT_eq]
  simp only [List.length_append, List.length_replicate, upper_len, List.length_cons, List.length_nil]
  omega
theorem dec_lenA (n : Int) (h0 : 0 ≤ n) (h1 : n ≤ 1099511627776) : (decA n).size ≤ 100 := by
  have := itoa_len n (by omega) (by omega)
  show (Lib.itoa n).toArray.size ≤ 100
  rw [List.size_toArray]; omega
theorem hexP (n : Int) (h0 : 0 ≤ n) (h1 : n ≤ 1099511627776) : num_Hex.f n = some (hexA n) := by
  rw [hex_f n (by omega), if_neg (by omega)]; rfl
theorem decP (n : Int) (h0 : 0 ≤ n) (h1 : n ≤ 1099511627776) : num_Dec.f n = some (decA n) := itoa_f n (by omega) (by omega)
theorem rows_eq : ∀ (l : List S23) (e : Int) (p : Option Int) (acc : ByteArray), mayL e p l = true → 0 ≤ e → e ≤ 1099511627776 → rowsB l acc = some (rowsT acc l)
  | [], _, _, _, _, _, _ => rfl
  | r :: l, e, p, acc, h, h0, h1 => by
    obtain ⟨e0, e1, e2, e3, _, e5⟩ := mayL_cons h
    unfold rowsB
    rw [hexP r.f0 (by omega) (by omega), hexP r.f1 (by omega) (by omega)]
    simp only [Option.bind_some]
    rw [if_pos ⟨by have := hex_len r.f0 (by omega) (by omega); omega, by have := hex_len r.f1 (by omega) (by omega); omega, isS_ok e3⟩, rows_eq l _ _ _ e5 (by omega) (by omega), line3]
    rfl
theorem print_ev (pos pass st : Int) (l : List S23) (hl : l.length ≤ 100000) : Ev (fun k => maptext_Print.f k pos pass st l) (mapT pos pass st l) := by
  show Ev (fun k => printF k pos pass st l) _
  unfold printF mapT
  refine Ev.bind (mayMap_ev pos pass st l (by omega)) ?_
  by_cases hm : mayMap pos pass st l = true
  · rw [if_pos hm, if_pos hm]
    simp only [mayMap, Bool.and_eq_true, decide_eq_true_eq] at hm
    obtain ⟨m0, m1, m2, m3, m4, m5⟩ := hm
    have he := (mayL_end m0 (by omega)).2
    rw [hexP pos m1 (by omega), decP pass m3 (by omega)]
    simp only [Option.bind_some]
    rw [if_pos ⟨by have := hex_len pos m1 (by omega); omega, by have := dec_lenA pass m3 (by omega); omega, isS_ok m5, hl⟩, rows_eq l 0 none _ m0 (by omega) (by omega), head_eq]
    exact Ev.now _
  · rw [if_neg hm, if_neg hm]; exact Ev.now _
theorem rows_mono (l : List S23) : ∀ acc : ByteArray, acc.size ≤ (rowsT acc l).size := by
  induction l with
  | nil => intro acc; exact Nat.le_refl _
  | cons r l ih =>
    intro acc
    refine Nat.le_trans ?_ (ih (acc ++ rowT r))
    rw [ByteArray.size_append]; omega
theorem st_size (s : Int) : (stB s).size = 1 := rfl
theorem sp_size : spB.size = 1 := rfl
theorem nl_size : nlB.size = 1 := rfl
end Go.Proofs.YtlcablcpcbmgeaaGreatDoor.PureM
end

section
namespace Go.Proofs.YtlcablcpcbmgeaaGreatDoor.PureM
open Go.RowKit Go.Lib Go.Proofs.YtlcablcpcbmgeaaGreatDoorW.PrintWords Go.Proofs.YtlcablcpcbmgeaaGreatDoorW.PrintLast Go.Proofs.YtlcablcpcbmgeaaGreatDoor.P Go.Proofs.YtlcablcpcbmgeaaGreatDoor.Num Go.Proofs.YtlcablcpcbmgeaaGreatDoor.Reg
set_option linter.unusedVariables false
set_option linter.unusedSimpArgs false
theorem app_data (a b : ByteArray) : (a ++ b).data.toList = a.data.toList ++ b.data.toList := by simp
def rowD (r : S23) : List UInt8 := hexT r.f0.toNat ++ [32] ++ hexT r.f1.toNat ++ [32] ++ [UInt8.ofNat r.f2.toNat] ++ [10]
theorem rowT_data (r : S23) : (rowT r).data.toList = rowD r := by simp [rowT, rowD, hexA, spB, stB, nlB]
theorem rowsT_data : ∀ (l : List S23) (acc : ByteArray), (rowsT acc l).data.toList = acc.data.toList ++ l.flatMap rowD
  | [], acc => by simp [rowsT]
  | r :: l, acc => by
    show (rowsT (acc ++ rowT r) l).data.toList = _
    rw [rowsT_data l, app_data, rowT_data, List.flatMap_cons, List.append_assoc]
def rowX (r : S23) : List ByteArray := [ofL (hexT r.f0.toNat), ofL (hexT r.f1.toNat), ofL [UInt8.ofNat r.f2.toNat]]
theorem rows_lines : ∀ (l : List S23), (∀ r ∈ l, isS r.f2 = true) → linesW (l.flatMap rowD) = l.map rowX
  | [], _ => rfl
  | r :: l, h => by
    rw [List.flatMap_cons, List.map_cons, ← rows_lines l (fun x hx => h x (List.mem_cons_of_mem _ hx))]
    exact linesW_row (wd_hex _) (wd_hex _) (st_byte (h r (List.mem_cons_self ..))).1 _
theorem rows_map : ∀ (l : List S23), (∀ r ∈ l, 0 ≤ r.f0 ∧ r.f0 ≤ 1099511627776 ∧ 1 ≤ r.f1 ∧ r.f1 ≤ 1099511627776 ∧ isS r.f2 = true) → Rows l (l.map rowX)
  | [], _ => trivial
  | r :: l, h => by
    obtain ⟨a0, a1, a2, a3, a4⟩ := h r (List.mem_cons_self ..)
    exact ⟨⟨place_ofHex _ a0 a1, place_ofHex _ (by omega) a3, (st_byte a4).2⟩, rows_map l fun x hx => h x (List.mem_cons_of_mem _ hx)⟩
/-- What is printed is read again. -/
theorem back_eq {pos pass st : Int} {l : List S23} (hm : mayMap pos pass st l = true) (hs : (rowsT (headT pos pass st) l).size ≤ 40000) : resL (linesW (mapT pos pass st l).data.toList) = (pos, pass, st, l, 0) := by
  have hm' := hm
  simp only [mayMap, Bool.and_eq_true, decide_eq_true_eq] at hm'
  obtain ⟨m0, m1, m2, m3, m4, m5⟩ := hm'
  have he := (mayL_end m0 (by omega)).2
  have hall := mayL_all l 0 none m0 (by omega) (by omega)
  have eT : (mapT pos pass st l).data.toList = [35, 32, 115, 97, 108, 118, 111, 114] ++ 10 :: (hexT pos.toNat ++ [32] ++ [UInt8.ofNat st.toNat] ++ [32] ++ decDigits pass.toNat ++ [10] ++ l.flatMap rowD) := by
    unfold mapT
    rw [if_pos hm, if_neg (by omega), rowsT_data]
    simp [headT, hexA, decA, spB, stB, nlB, itoa_nn m3]
  have e1 : linesW (mapT pos pass st l).data.toList = [ofL (hexT pos.toNat), ofL [UInt8.ofNat st.toNat], ofL (decDigits pass.toNat)] :: l.map rowX := by
    rw [eT, linesW_line _ _ (by decide), if_pos (by decide +kernel), List.nil_append, linesW_row (wd_hex _) (st_byte m5).1 (wd_dec _), rows_lines l (fun r hr => (hall r hr).2.2.2.2)]
  have hp : placeA (ofL (hexT pos.toNat)) = some pos.toNat := place_ofHex pos m1 (by omega)
  have hd : decW (ofL (decDigits pass.toNat)) = some pass.toNat := by unfold decW; rw [data_ofL]; exact getdec_dec _ (by unfold MX; omega)
  have hr := regL_back l (l.map rowX) [] (rows_map l hall) (by rw [List.nil_append]; exact m0)
  rw [List.nil_append] at hr
  have hb := mapL_back (x := [ofL (hexT pos.toNat), ofL [UInt8.ofNat st.toNat], ofL (decDigits pass.toNat)]) hm ⟨hp, (st_byte m5).2, hd⟩ hr m1 m3
  rw [e1]
  unfold resL
  rw [if_pos, hb]
  simp only [List.all_cons, List.all_map]
  simp [rowX, Function.comp_def]

end Go.Proofs.YtlcablcpcbmgeaaGreatDoor.PureM
end
