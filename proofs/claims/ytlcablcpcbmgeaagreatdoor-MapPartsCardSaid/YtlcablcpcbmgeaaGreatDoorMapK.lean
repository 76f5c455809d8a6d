/- Plain laws of a map's text: a region in two parts; one that is left out, moved, or of another size. No program in sight. No conditions beyond those that the lemmas name. -/
import Derived.Test.YtlcablcpcbmgeaaGreatDoorPx0
import Derived.Test.YtlcablcpcbmgeaaGreatDoorMapS
namespace Go.Proofs.YtlcablcpcbmgeaaGreatDoor.PureM
open Go.RowKit Go.Lib Go.Proofs.YtlcablcpcbmgeaaGreatDoorW.PrintWords Go.Proofs.YtlcablcpcbmgeaaGreatDoorW.PrintLast Go.Proofs.YtlcablcpcbmgeaaGreatDoor.P Go.Proofs.YtlcablcpcbmgeaaGreatDoor.Num Go.Proofs.YtlcablcpcbmgeaaGreatDoor.Reg
set_option linter.unusedVariables false
set_option linter.unusedSimpArgs false
/-- A line of three words, in decimal. -/
def wr (a b : Nat) (s : UInt8) : List ByteArray := [ofL (decDigits a), ofL (decDigits b), ofL [s]]
def wrD (a b : Nat) (s : UInt8) : List UInt8 := decDigits a ++ [32] ++ decDigits b ++ [32] ++ [s] ++ [10]
def wrsD (l : List (Nat × Nat × UInt8)) : List UInt8 := l.flatMap fun x => wrD x.1 x.2.1 x.2.2
theorem wrs_lines : ∀ (l : List (Nat × Nat × UInt8)), (∀ x ∈ l, 36 ≤ x.2.2.toNat) → linesW (wrsD l) = l.map fun x => wr x.1 x.2.1 x.2.2
  | [], _ => rfl
  | x :: l, h => by
    show linesW (wrD x.1 x.2.1 x.2.2 ++ wrsD l) = _
    rw [List.map_cons, ← wrs_lines l (fun y hy => h y (List.mem_cons_of_mem _ hy))]
    exact linesW_row (wd_dec _) (wd_dec _) ⟨by simp, fun c hc => by obtain rfl := List.mem_singleton.1 hc; exact h x (List.mem_cons_self ..)⟩ _
theorem place_ofDec (n : Nat) (h : n ≤ MX) : placeA (ofL (decDigits n)) = some n := by unfold placeA; rw [data_ofL]; exact place_dec _ h
theorem regL_app : ∀ (a b : List (List ByteArray)) (out : List S23), regL out (a ++ b) = (regL out a).bind fun o => regL o b
  | [], b, out => rfl
  | x :: a, b, out => by
    rw [List.cons_append, regL, regL]
    cases regS out x with
    | none => rfl
    | some o => rw [Option.bind_some, Option.bind_some]; exact regL_app a b o
/-- One line. -/
theorem regS_wr (out : List S23) (a b : Nat) (s : UInt8) (ha : a ≤ MX) (hb : b ≤ MX) : regS out (wr a b s) = (stP (ofL [s])).bind fun st => if (a : Int) = endOf 0 out then if 1 ≤ (b : Int) then if (b : Int) ≤ 1099511627776 - (a : Int) then some (addP out (endOf 0 out) b st) else none else none else none := by
  have e0 : rdW (wr a b s) 0 = ofL (decDigits a) := rfl
  have e1 : rdW (wr a b s) 1 = ofL (decDigits b) := rfl
  have e2 : rdW (wr a b s) 2 = ofL [s] := rfl
  unfold regS
  rw [e0, e1, e2, place_ofDec a ha, place_ofDec b hb, Option.bind_some, Option.bind_some]
def stU (s : Int) : UInt8 := UInt8.ofNat s.toNat
theorem endOf_snoc (e : Int) (a : List S23) (r : S23) : endOf e (a ++ [r]) = endOf e a + r.f1 := by rw [endOf_append]; rfl
/-- The lines of one region: whole, or in two parts. -/
def whole (r : S23) : List (Nat × Nat × UInt8) := [(r.f0.toNat, r.f1.toNat, stU r.f2)]
def parts (r : S23) : List (Nat × Nat × UInt8) := if 1 < r.f1 then [(r.f0.toNat, 1, stU r.f2), ((r.f0 + 1).toNat, (r.f1 - 1).toNat, stU r.f2)] else whole r
def wrs (l : List (Nat × Nat × UInt8)) : List (List ByteArray) := l.map fun x => wr x.1 x.2.1 x.2.2
theorem regL_whole {out : List S23} {r : S23} {t : List S23} (h : mayL 0 none (out ++ r :: t) = true) : regL out (wrs (whole r)) = some (out ++ [r]) := by
  have h0 := end_nn h
  obtain ⟨a0, a1, a2, a3⟩ := addP_new h
  have hs : isS r.f2 = true := by
    rw [mayL_append, Bool.and_eq_true] at h
    exact (mayL_cons h.2).2.2.2.1
  show (regS out (wr r.f0.toNat r.f1.toNat (stU r.f2))).bind (fun o => some o) = _
  rw [regS_wr out _ _ _ (by unfold MX; omega) (by unfold MX; omega), show stP (ofL [stU r.f2]) = some r.f2 from (st_byte hs).2, Option.bind_some, if_pos (by omega), if_pos (by omega), if_pos (by omega), Int.toNat_of_nonneg (by omega), a0]; rfl
theorem regL_parts {out : List S23} {r : S23} {t : List S23} (h : mayL 0 none (out ++ r :: t) = true) : regL out (wrs (parts r)) = some (out ++ [r]) := by
  by_cases h1 : 1 < r.f1
  · have h0 := end_nn h
    obtain ⟨a0, a1, a2, a3⟩ := addP_new h
    have hm := h
    rw [mayL_append, Bool.and_eq_true] at hm
    obtain ⟨e0, e1, e2, e3, e4, e5⟩ := mayL_cons hm.2
    have hs := (st_byte e3).2
    have hb : addP out (endOf 0 out) 1 r.f2 = out ++ [⟨r.f0, 1, r.f2⟩] := by
      have h2 : mayL 0 none (out ++ [(⟨r.f0, 1, r.f2⟩ : S23)]) = true := by
        rw [mayL_append, hm.1, Bool.true_and]
        exact mayL_mk e0 (by show (1 : Int) ≤ 1; omega) (by show (1 : Int) ≤ _; omega) e3 e4 rfl
      exact (addP_new h2).1
    unfold parts
    rw [if_pos h1]
    show (regS out (wr r.f0.toNat 1 (stU r.f2))).bind (fun o => (regS o (wr (r.f0 + 1).toNat (r.f1 - 1).toNat (stU r.f2))).bind fun o => some o) = _
    rw [regS_wr out _ _ _ (by unfold MX; omega) (by unfold MX; omega), show stP (ofL [stU r.f2]) = some r.f2 from hs, Option.bind_some, if_pos (by omega), if_pos (by omega), if_pos (by omega), show ((1 : Nat) : Int) = 1 from rfl, hb, Option.bind_some]
    have hE : endOf 0 (out ++ [(⟨r.f0, 1, r.f2⟩ : S23)]) = r.f0 + 1 := by rw [endOf_snoc, ← e0]
    rw [regS_wr _ _ _ _ (by unfold MX; omega) (by unfold MX; omega), show stP (ofL [stU r.f2]) = some r.f2 from hs, Option.bind_some, hE, if_pos (by omega), if_pos (by omega), if_pos (by omega), Int.toNat_of_nonneg (by omega), addP_snoc, if_neg (by omega), if_pos rfl]
    show some (out ++ [(⟨r.f0, 1 + (r.f1 - 1), r.f2⟩ : S23)]) = _
    rw [show 1 + (r.f1 - 1) = r.f1 by omega]
  · unfold parts
    rw [if_neg h1]; exact regL_whole h
def partsX (k i : Nat) : List S23 → List (Nat × Nat × UInt8)
  | [] => []
  | r :: t => (if i = k then parts r else whole r) ++ partsX k (i + 1) t
theorem wrs_app (a b : List (Nat × Nat × UInt8)) : wrs (a ++ b) = wrs a ++ wrs b := List.map_append ..
theorem parts_back (k : Nat) : ∀ (t : List S23) (i : Nat) (out : List S23), mayL 0 none (out ++ t) = true → regL out (wrs (partsX k i t)) = some (out ++ t)
  | [], _, out, _ => by rw [List.append_nil]; rfl
  | r :: t, i, out, h => by
    have e : regL out (wrs (if i = k then parts r else whole r)) = some (out ++ [r]) := by
      by_cases c : i = k
      · rw [if_pos c]; exact regL_parts h
      · rw [if_neg c]; exact regL_whole h
    rw [partsX, wrs_app, regL_app, e, Option.bind_some, parts_back k t (i + 1) (out ++ [r]) (by rw [List.append_assoc]; exact h), List.append_assoc]; rfl
/-- The wrong ones. -/
def wrong (how : Nat) (r : S23) : List (Nat × Nat × UInt8) :=
  if how = 0 then [((r.f0 + 1).toNat, r.f1.toNat, 43)] else if how = 1 then (r.f0.toNat, 0, 43) :: parts r else if how = 2 then [(r.f0.toNat, r.f1.toNat, 120)] else parts r ++ [(r.f0.toNat, 1, 43)]
theorem regL_wrong (how : Nat) {out : List S23} {r : S23} {t : List S23} (h : mayL 0 none (out ++ r :: t) = true) : regL out (wrs (wrong how r)) = none := by
  have h0 := end_nn h
  obtain ⟨a0, a1, a2, a3⟩ := addP_new h
  have hp : stP (ofL [43]) = some 43 := by decide +kernel
  have hx : stP (ofL [120]) = none := by decide +kernel
  unfold wrong
  by_cases c0 : how = 0
  · rw [if_pos c0]
    show (regS out (wr (r.f0 + 1).toNat r.f1.toNat 43)).bind _ = none
    rw [regS_wr out _ _ _ (by unfold MX; omega) (by unfold MX; omega), hp, Option.bind_some, if_neg (by omega)]; rfl
  by_cases c1 : how = 1
  · rw [if_neg c0, if_pos c1]
    show (regS out (wr r.f0.toNat 0 43)).bind _ = none
    rw [regS_wr out _ _ _ (by unfold MX; omega) (by unfold MX; omega), hp, Option.bind_some, if_pos (by omega), if_neg (by decide)]; rfl
  by_cases c2 : how = 2
  · rw [if_neg c0, if_neg c1, if_pos c2]
    show (regS out (wr r.f0.toNat r.f1.toNat 120)).bind _ = none
    rw [regS_wr out _ _ _ (by unfold MX; omega) (by unfold MX; omega), hx]; rfl
  · rw [if_neg c0, if_neg c1, if_neg c2, wrs_app, regL_app, regL_parts h, Option.bind_some]
    show (regS (out ++ [r]) (wr r.f0.toNat 1 43)).bind _ = none
    rw [regS_wr _ _ _ _ (by unfold MX; omega) (by unfold MX; omega), hp, Option.bind_some, endOf_snoc, if_neg (by omega)]; rfl
def wrongX (how k i : Nat) : List S23 → List (Nat × Nat × UInt8)
  | [] => []
  | r :: t => (if i = k then wrong how r else whole r) ++ wrongX how k (i + 1) t
theorem wrong_none (how k : Nat) : ∀ (t : List S23) (i : Nat) (out : List S23), i ≤ k → k < i + t.length → mayL 0 none (out ++ t) = true → regL out (wrs (wrongX how k i t)) = none
  | [], i, out, h1, h2, _ => by simp at h2; omega
  | r :: t, i, out, h1, h2, h => by
    rw [wrongX, wrs_app, regL_app]
    by_cases c : i = k
    · rw [if_pos c, regL_wrong how h]; rfl
    · rw [if_neg c, regL_whole h, Option.bind_some]
      exact wrong_none how k t (i + 1) (out ++ [r]) (by omega) (by simp only [List.length_cons] at h2; omega) (by rw [List.append_assoc]; exact h)
end Go.Proofs.YtlcablcpcbmgeaaGreatDoor.PureM
