/- The walk of the library's ParseUint, at bases 10 and 16, at 63 bits. No conditions beyond a text's length. -/
import Derived.Test.YtbmhfnncagncmaaDoorProg
import Derived.Test.YtbmhfnncagncmaaDoorNumL
import Derived.Lib.Strings
import Derived.Lib.Walk
import Derived.Lib.ConvBytes
import Derived.Lib.ParseIntBMem
import Derived.Lib.Hide
import Derived.Laws.Strings3
import Derived.Laws.Closers25
import Derived.Laws.Closers25b
import Derived.WalkKit
import Derived.BigCall
import Derived.BigGuard
namespace Go.Proofs.YtbmhfnncagncmaaDoor.Num
open Go.RowKit
set_option linter.unusedVariables false
set_option linter.unusedSimpArgs false
theorem lower_any (c : Int) (w : World) : Calls Tryd.prog 72 #[.int .u8 c] w fun e w' => e = .returned (.int .u8 (bits .or .u8 c 32)) ∧ w' = w := by
  go_enter Tryd.func72, Tryd.ntmps72
  go_wp2
  go_ret
  exact ⟨rfl, rfl⟩
theorem low_or (c : UInt8) : bits .or .u8 (c.toNat : Int) 32 = ((c.toNat ||| 32 : Nat) : Int) := by
  have h : ∀ c : Fin 256, bits .or .u8 ((c : Nat) : Int) 32 = (((c : Nat) ||| 32 : Nat) : Int) := by decide +kernel
  exact h ⟨c.toNat, c.toNat_lt⟩
theorem low_lt (c : UInt8) : c.toNat ||| 32 < 256 := by
  have h : ∀ c : Fin 256, (c : Nat) ||| 32 < 256 := by decide +kernel
  exact h ⟨c.toNat, c.toNat_lt⟩
set_option maxHeartbeats 32000000 in
set_option maxRecDepth 100000 in
/-- The library's ParseUint at base 10, 63 bits, of a text that is not empty. -/
theorem parse10 (t : ByteArray) (hne : t.size ≠ 0) (hmax : t.size ≤ 9223372036854775806) (w : World) :
    Calls Tryd.prog 69 #[.string t, .int .i64 10, .int .i64 63] w fun e w' => e = .returned (Lib.uintTupleM 104 9223372036854775807 (pu 10 0 t.data.toList)) ∧ w' = Lib.bytesWorld w 5 t := by
  have hemp : t.toList.isEmpty = false := by
    rw [← decide_eq_emptyBytes]
    exact decide_eq_false (fun h => hne (by rw [h]; rfl))
  have hcv := Lib.run_convert_string_bytes (P := Tryd.prog) w 9 51 5 t (u := .string) Tryd.underlying9 Tryd.underlying51 Tryd.underlying5
  have hB : ∀ j, j < t.size → (Lib.bytesWorld w 5 t).cell? ⟨w.heap.size, j, none⟩ = some (.int .u8 (t.data.toList.getD j 0).toNat) := fun j hj => Lib.bytesWorld_cell w 5 t j hj
  obtain ⟨W1, hW1⟩ : ∃ W1, W1 = Lib.bytesWorld w 5 t := ⟨_, rfl⟩
  rw [← hW1] at hcv hB ⊢
  clear hW1
  obtain ⟨bs, hL⟩ : ∃ bs, bs = t.data.toList := ⟨_, rfl⟩
  have hLn : bs.length = t.size := by rw [hL, Lib.size_eq]
  rw [← hL] at hB ⊢
  clear hL
  have hmv : IntKind.u64.wrap (IntKind.u64.wrap 9223372036854775808 - 1) = 9223372036854775807 := by
    rw [IntKind.wrap_u64, IntKind.wrap_u64]
    decide
  go_enter Tryd.func69, Tryd.ntmps69
  go_wp2
  go_loop [12, 13, 101] (fun vu vn vi => ∃ (k acc : Nat) (a : Int), vu = .bool false ∧ vn = .int .u64 a ∧ vi = .int .i64 k ∧ k ≤ t.size ∧ Hid (a = (acc : Int) ∧ acc ≤ 9223372036854775807 ∧ pu 10 0 bs = pu 10 acc (bs.drop k)))
    (fun _ _ vi => t.size - (intOf vi).toNat)
  case atStart => exact ⟨0, 0, 0, rfl, rfl, rfl, by omega, rfl, by omega, rfl⟩
  case round =>
    obtain ⟨k, acc, a, rfl, rfl, rfl, hk, hh⟩ := hrel
    obtain ⟨ha, hacc, hdec⟩ := hh.out
    clear hh
    have a0 : 0 ≤ a := by omega
    have a1 : a ≤ 9223372036854775807 := by omega
    by_cases hkn : k < t.size
    · have hc := hB k hkn
      have hdrop : bs.drop k = bs[k]'(by omega) :: bs.drop (k + 1) := List.drop_eq_getElem_cons (by omega)
      have hget : bs.getD k 0 = bs[k]'(by omega) := by simp [List.getD, List.getElem?_eq_getElem (show k < bs.length by omega)]
      rw [hdrop] at hdec
      rw [hget] at hc
      generalize bs[k]'(by omega) = c at hc hdec
      have hc256 : c.toNat < 256 := c.toNat_lt
      clear hB hdrop hget
      by_cases hdig : 48 ≤ c.toNat ∧ c.toNat ≤ 57
      · have HD2 := Lib.hid (show dv c.toNat = c.toNat - 48 by unfold dv; rw [if_pos hdig])
        have HD := Lib.hid (show dv c.toNat < 10 by rw [HD2.out]; omega)
        obtain ⟨hd0, hd1⟩ := hdig
        by_cases hcut : 1844674407370955162 ≤ acc
        · have hF : pu 10 acc (c :: bs.drop (k + 1)) = .range := by rw [pu, if_pos HD.out, HD2.out, if_pos (by omega)]
          rw [hF] at hdec
          have icut : 1844674407370955162 ≤ a := by omega
          clear hcut hacc hF ha
          go_wp2
          all_goals go_ret2
          all_goals first | exact ⟨rfl, rfl⟩ | exact ⟨by rw [hdec]; rfl, rfl⟩
        · by_cases hov : 18446744073709551616 ≤ acc * 10 + (c.toNat - 48)
          · have hF : pu 10 acc (c :: bs.drop (k + 1)) = .range := by rw [pu, if_pos HD.out, HD2.out, if_pos (by omega)]
            rw [hF] at hdec
            have icut : a < 1844674407370955162 := by omega
            have iov : 18446744073709551616 ≤ a * 10 + ((c.toNat : Int) - 48) := by omega
            have hwr : IntKind.u64.wrap (a * 10 + ((c.toNat : Int) - 48)) = a * 10 + ((c.toNat : Int) - 48) - 18446744073709551616 := by
              rw [IntKind.wrap_u64]
              omega
            clear hcut hacc hF hov ha
            go_wp2
            all_goals go_ret2
            all_goals first | exact ⟨rfl, rfl⟩ | exact ⟨by rw [hdec]; rfl, rfl⟩
          · by_cases hmx : 9223372036854775807 < acc * 10 + (c.toNat - 48)
            · have hF : pu 10 acc (c :: bs.drop (k + 1)) = .range := by rw [pu, if_pos HD.out, HD2.out, if_pos hmx]
              rw [hF] at hdec
              have icut : a < 1844674407370955162 := by omega
              have iov : a * 10 + ((c.toNat : Int) - 48) < 18446744073709551616 := by omega
              have imx : 9223372036854775807 < a * 10 + ((c.toNat : Int) - 48) := by omega
              clear hcut hacc hF hmx ha hov
              go_wp2
              all_goals go_ret2
              all_goals first | exact ⟨rfl, rfl⟩ | exact ⟨by rw [hdec]; rfl, rfl⟩
            · have hF : pu 10 acc (c :: bs.drop (k + 1)) = pu 10 (acc * 10 + (c.toNat - 48)) (bs.drop (k + 1)) := by rw [pu, if_pos HD.out, HD2.out, if_neg hmx]
              have HN : Hid (a * 10 + ((c.toNat : Int) - 48) = ((acc * 10 + (c.toNat - 48) : Nat) : Int) ∧ acc * 10 + (c.toNat - 48) ≤ 9223372036854775807 ∧ pu 10 0 bs = pu 10 (acc * 10 + (c.toNat - 48)) (bs.drop (k + 1))) := Lib.hid ⟨by omega, by omega, hdec.trans hF⟩
              have icut : a < 1844674407370955162 := by omega
              have imx : a * 10 + ((c.toNat : Int) - 48) ≤ 9223372036854775807 := by omega
              clear hcut hacc hF hmx hdec ha hov
              go_wp2
              all_goals refine ⟨⟨k + 1, acc * 10 + (c.toNat - 48), a * 10 + ((c.toNat : Int) - 48), rfl, (by first | rfl | (congr 1; omega)), (by first | rfl | (congr 1; omega)), by omega, HN⟩, by simp [intOf]; omega⟩
      · by_cases h95 : c.toNat = 95
        · have hF : pu 10 acc (c :: bs.drop (k + 1)) = .ofOption none := by
            rw [pu, if_neg]
            rw [h95]
            decide
          rw [hF] at hdec
          rw [h95] at hc
          have hu : bits .or .u8 95 32 = 127 := by decide +kernel
          clear hacc hF ha hdig h95 hc256
          go_wp2_with (go_at_call 72; refine (lower_any _ _).mono ?_; rintro e w' ⟨rfl, rfl⟩)
          all_goals go_ret2
          all_goals first | exact ⟨rfl, rfl⟩ | exact ⟨by rw [hdec]; rfl, rfl⟩
        have n95 : (((c.toNat : Nat) : Int) == 95) = false := by simpa using (show ¬ ((c.toNat : Nat) : Int) = 95 by omega)
        obtain ⟨lo, hlo⟩ : ∃ lo : Int, lo = bits .or .u8 (c.toNat : Int) 32 := ⟨_, rfl⟩
        have hlow := lower_any (c.toNat : Int)
        rw [← hlo] at hlow
        have hlo2 : lo = ((c.toNat ||| 32 : Nat) : Int) := hlo.trans (low_or c)
        have hlo3 := low_lt c
        have l0 : 0 ≤ lo := by omega
        have l1 : lo ≤ 255 := by omega
        clear hlo
        have hF : pu 10 acc (c :: bs.drop (k + 1)) = .ofOption none := by
          simp only [pu]
          rw [if_neg]
          unfold dv
          rw [if_neg hdig]
          split <;> omega
        clear hlo2 hlo3
        by_cases hlet : 97 ≤ lo ∧ lo ≤ 122
        · obtain ⟨hl0, hl1⟩ := hlet
          rw [hF] at hdec
          clear hacc hF ha
          go_wp2_with (go_at_call 72; refine (hlow _).mono ?_; rintro e w' ⟨rfl, rfl⟩)
          all_goals go_ret2
          all_goals first | exact ⟨rfl, rfl⟩ | exact ⟨by rw [hdec]; rfl, rfl⟩
        · have hlet2 : ¬ (97 ≤ lo) ∨ ¬ (lo ≤ 122) := by omega
          clear hlet
          rcases hlet2 with hlet2 | hlet2
          all_goals
            rw [hF] at hdec
            clear hacc hF ha
            go_wp2_with (go_at_call 72; refine (hlow _).mono ?_; rintro e w' ⟨rfl, rfl⟩)
            all_goals go_ret2
            all_goals first | exact ⟨rfl, rfl⟩ | exact ⟨by rw [hdec]; rfl, rfl⟩
    · have hkk : k = t.size := by omega
      subst hkk
      have hF : pu 10 acc (bs.drop t.size) = .ok acc := by rw [List.drop_eq_nil_of_le (by omega)]; rfl
      rw [hF] at hdec
      subst ha
      clear hacc hF a0 a1
      go_wp2
      go_ret2
      first | exact ⟨rfl, rfl⟩ | exact ⟨by rw [hdec]; rfl, rfl⟩
set_option maxHeartbeats 32000000 in
set_option maxRecDepth 100000 in
/-- The library's ParseUint at base 16, 63 bits, of a text that is not empty. -/
theorem parse16 (t : ByteArray) (hne : t.size ≠ 0) (hmax : t.size ≤ 9223372036854775806) (w : World) :
    Calls Tryd.prog 69 #[.string t, .int .i64 16, .int .i64 63] w fun e w' => e = .returned (Lib.uintTupleM 104 9223372036854775807 (pu 16 0 t.data.toList)) ∧ w' = Lib.bytesWorld w 5 t := by
  have hemp : t.toList.isEmpty = false := by
    rw [← decide_eq_emptyBytes]
    exact decide_eq_false (fun h => hne (by rw [h]; rfl))
  have hcv := Lib.run_convert_string_bytes (P := Tryd.prog) w 9 51 5 t (u := .string) Tryd.underlying9 Tryd.underlying51 Tryd.underlying5
  have hB : ∀ j, j < t.size → (Lib.bytesWorld w 5 t).cell? ⟨w.heap.size, j, none⟩ = some (.int .u8 (t.data.toList.getD j 0).toNat) := fun j hj => Lib.bytesWorld_cell w 5 t j hj
  obtain ⟨W1, hW1⟩ : ∃ W1, W1 = Lib.bytesWorld w 5 t := ⟨_, rfl⟩
  rw [← hW1] at hcv hB ⊢
  clear hW1
  obtain ⟨bs, hL⟩ : ∃ bs, bs = t.data.toList := ⟨_, rfl⟩
  have hLn : bs.length = t.size := by rw [hL, Lib.size_eq]
  rw [← hL] at hB ⊢
  clear hL
  have hmv : IntKind.u64.wrap (IntKind.u64.wrap 9223372036854775808 - 1) = 9223372036854775807 := by
    rw [IntKind.wrap_u64, IntKind.wrap_u64]
    decide
  go_enter Tryd.func69, Tryd.ntmps69
  go_wp2
  go_loop [12, 13, 101] (fun vu vn vi => ∃ (k acc : Nat) (a : Int), vu = .bool false ∧ vn = .int .u64 a ∧ vi = .int .i64 k ∧ k ≤ t.size ∧ Hid (a = (acc : Int) ∧ acc ≤ 9223372036854775807 ∧ pu 16 0 bs = pu 16 acc (bs.drop k)))
    (fun _ _ vi => t.size - (intOf vi).toNat)
  case atStart => exact ⟨0, 0, 0, rfl, rfl, rfl, by omega, rfl, by omega, rfl⟩
  case round =>
    obtain ⟨k, acc, a, rfl, rfl, rfl, hk, hh⟩ := hrel
    obtain ⟨ha, hacc, hdec⟩ := hh.out
    clear hh
    have a0 : 0 ≤ a := by omega
    have a1 : a ≤ 9223372036854775807 := by omega
    by_cases hkn : k < t.size
    · have hc := hB k hkn
      have hdrop : bs.drop k = bs[k]'(by omega) :: bs.drop (k + 1) := List.drop_eq_getElem_cons (by omega)
      have hget : bs.getD k 0 = bs[k]'(by omega) := by simp [List.getD, List.getElem?_eq_getElem (show k < bs.length by omega)]
      rw [hdrop] at hdec
      rw [hget] at hc
      generalize bs[k]'(by omega) = c at hc hdec
      have hc256 : c.toNat < 256 := c.toNat_lt
      clear hB hdrop hget
      by_cases hdig : 48 ≤ c.toNat ∧ c.toNat ≤ 57
      · have HD2 := Lib.hid (show dv c.toNat = c.toNat - 48 by unfold dv; rw [if_pos hdig])
        have HD := Lib.hid (show dv c.toNat < 16 by rw [HD2.out]; omega)
        obtain ⟨hd0, hd1⟩ := hdig
        by_cases hcut : 1152921504606846976 ≤ acc
        · have hF : pu 16 acc (c :: bs.drop (k + 1)) = .range := by rw [pu, if_pos HD.out, HD2.out, if_pos (by omega)]
          rw [hF] at hdec
          have icut : 1152921504606846976 ≤ a := by omega
          clear hcut hacc hF ha
          go_wp2
          all_goals go_ret2
          all_goals first | exact ⟨rfl, rfl⟩ | exact ⟨by rw [hdec]; rfl, rfl⟩
        · by_cases hmx : 9223372036854775807 < acc * 16 + (c.toNat - 48)
          · have hF : pu 16 acc (c :: bs.drop (k + 1)) = .range := by rw [pu, if_pos HD.out, HD2.out, if_pos hmx]
            rw [hF] at hdec
            have icut : a < 1152921504606846976 := by omega
            have iov : a * 16 + ((c.toNat : Int) - 48) < 18446744073709551616 := by omega
            have imx : 9223372036854775807 < a * 16 + ((c.toNat : Int) - 48) := by omega
            clear hcut hacc hF hmx ha
            go_wp2
            all_goals go_ret2
            all_goals first | exact ⟨rfl, rfl⟩ | exact ⟨by rw [hdec]; rfl, rfl⟩
          · have hF : pu 16 acc (c :: bs.drop (k + 1)) = pu 16 (acc * 16 + (c.toNat - 48)) (bs.drop (k + 1)) := by rw [pu, if_pos HD.out, HD2.out, if_neg hmx]
            have HN : Hid (a * 16 + ((c.toNat : Int) - 48) = ((acc * 16 + (c.toNat - 48) : Nat) : Int) ∧ acc * 16 + (c.toNat - 48) ≤ 9223372036854775807 ∧ pu 16 0 bs = pu 16 (acc * 16 + (c.toNat - 48)) (bs.drop (k + 1))) := Lib.hid ⟨by omega, by omega, hdec.trans hF⟩
            have icut : a < 1152921504606846976 := by omega
            have imx : a * 16 + ((c.toNat : Int) - 48) ≤ 9223372036854775807 := by omega
            clear hcut hacc hF hmx hdec ha
            go_wp2
            all_goals refine ⟨⟨k + 1, acc * 16 + (c.toNat - 48), a * 16 + ((c.toNat : Int) - 48), rfl, (by first | rfl | (congr 1; omega)), (by first | rfl | (congr 1; omega)), by omega, HN⟩, by simp [intOf]; omega⟩
      · by_cases h95 : c.toNat = 95
        · have hF : pu 16 acc (c :: bs.drop (k + 1)) = .ofOption none := by
            rw [pu, if_neg]
            rw [h95]
            decide
          rw [hF] at hdec
          rw [h95] at hc
          have hu : bits .or .u8 95 32 = 127 := by decide +kernel
          clear hacc hF ha hdig h95 hc256
          go_wp2_with (go_at_call 72; refine (lower_any _ _).mono ?_; rintro e w' ⟨rfl, rfl⟩)
          all_goals go_ret2
          all_goals first | exact ⟨rfl, rfl⟩ | exact ⟨by rw [hdec]; rfl, rfl⟩
        have n95 : (((c.toNat : Nat) : Int) == 95) = false := by simpa using (show ¬ ((c.toNat : Nat) : Int) = 95 by omega)
        obtain ⟨lo, hlo⟩ : ∃ lo : Int, lo = bits .or .u8 (c.toNat : Int) 32 := ⟨_, rfl⟩
        have hlow := lower_any (c.toNat : Int)
        rw [← hlo] at hlow
        have hlo2 : lo = ((c.toNat ||| 32 : Nat) : Int) := hlo.trans (low_or c)
        have hlo3 := low_lt c
        have l0 : 0 ≤ lo := by omega
        have l1 : lo ≤ 255 := by omega
        clear hlo
        by_cases hlet : 97 ≤ lo ∧ lo ≤ 102
        · have HD2 := Lib.hid (show dv c.toNat = (c.toNat ||| 32) - 87 by unfold dv; rw [if_neg hdig, if_pos (by omega)])
          have HD := Lib.hid (show dv c.toNat < 16 by rw [HD2.out]; omega)
          obtain ⟨hl0, hl1⟩ := hlet
          have hdd : ((((c.toNat ||| 32) - 87 : Nat)) : Int) = lo - 97 + 10 := by omega
          obtain ⟨dn, hdn⟩ : ∃ dn, dn = (c.toNat ||| 32) - 87 := ⟨_, rfl⟩
          rw [← hdn] at hdd HD2
          clear hdn hlo2 hlo3
          by_cases hcut : 1152921504606846976 ≤ acc
          · have hF : pu 16 acc (c :: bs.drop (k + 1)) = .range := by rw [pu, if_pos HD.out, HD2.out, if_pos (by omega)]
            rw [hF] at hdec
            have icut : 1152921504606846976 ≤ a := by omega
            clear hcut hacc hF ha
            clear hdd
            go_wp2_with (go_at_call 72; refine (hlow _).mono ?_; rintro e w' ⟨rfl, rfl⟩)
            all_goals go_ret2
            all_goals first | exact ⟨rfl, rfl⟩ | exact ⟨by rw [hdec]; rfl, rfl⟩
          · by_cases hmx : 9223372036854775807 < acc * 16 + dn
            · have hF : pu 16 acc (c :: bs.drop (k + 1)) = .range := by rw [pu, if_pos HD.out, HD2.out, if_pos hmx]
              rw [hF] at hdec
              have icut : a < 1152921504606846976 := by omega
              have iov : a * 16 + (lo - 97 + 10) < 18446744073709551616 := by omega
              have imx : 9223372036854775807 < a * 16 + (lo - 97 + 10) := by omega
              clear hcut hacc hF hmx ha
              clear hdd
              go_wp2_with (go_at_call 72; refine (hlow _).mono ?_; rintro e w' ⟨rfl, rfl⟩)
              all_goals go_ret2
              all_goals first | exact ⟨rfl, rfl⟩ | exact ⟨by rw [hdec]; rfl, rfl⟩
            · have hF : pu 16 acc (c :: bs.drop (k + 1)) = pu 16 (acc * 16 + dn) (bs.drop (k + 1)) := by rw [pu, if_pos HD.out, HD2.out, if_neg hmx]
              have HN : Hid (a * 16 + (lo - 97 + 10) = ((acc * 16 + dn : Nat) : Int) ∧ acc * 16 + dn ≤ 9223372036854775807 ∧ pu 16 0 bs = pu 16 (acc * 16 + dn) (bs.drop (k + 1))) := Lib.hid ⟨by omega, by omega, hdec.trans hF⟩
              have icut : a < 1152921504606846976 := by omega
              have imx : a * 16 + (lo - 97 + 10) ≤ 9223372036854775807 := by omega
              clear hcut hacc hF hmx hdec ha
              clear hdd
              go_wp2_with (go_at_call 72; refine (hlow _).mono ?_; rintro e w' ⟨rfl, rfl⟩)
              all_goals refine ⟨⟨k + 1, acc * 16 + dn, a * 16 + (lo - 97 + 10), rfl, (by first | rfl | (congr 1; omega)), (by first | rfl | (congr 1; omega)), by omega, HN⟩, by simp [intOf]; omega⟩
        · have hF : pu 16 acc (c :: bs.drop (k + 1)) = .ofOption none := by
            simp only [pu]
            rw [if_neg]
            unfold dv
            rw [if_neg hdig]
            split <;> omega
          clear hlo2 hlo3
          have hlet2 : ¬ (97 ≤ lo) ∨ (103 ≤ lo ∧ lo ≤ 122) ∨ ¬ (lo ≤ 122) := by omega
          clear hlet
          rcases hlet2 with hlet2 | ⟨hlet2, hlet3⟩ | hlet2
          all_goals
            rw [hF] at hdec
            clear hacc hF ha
            go_wp2_with (go_at_call 72; refine (hlow _).mono ?_; rintro e w' ⟨rfl, rfl⟩)
            all_goals go_ret2
            all_goals first | exact ⟨rfl, rfl⟩ | exact ⟨by rw [hdec]; rfl, rfl⟩
    · have hkk : k = t.size := by omega
      subst hkk
      have hF : pu 16 acc (bs.drop t.size) = .ok acc := by rw [List.drop_eq_nil_of_le (by omega)]; rfl
      rw [hF] at hdec
      subst ha
      clear hacc hF a0 a1
      go_wp2
      go_ret2
      first | exact ⟨rfl, rfl⟩ | exact ⟨by rw [hdec]; rfl, rfl⟩
end Go.Proofs.YtbmhfnncagncmaaDoor.Num
