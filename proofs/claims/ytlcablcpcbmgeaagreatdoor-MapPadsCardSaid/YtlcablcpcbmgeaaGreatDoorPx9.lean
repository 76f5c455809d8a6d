/- Laid by a program of this session's own (wip/wprint.py, over the kit's print.py): functions of the given program as plain Lean functions, and that the program's calls come to their answers. -/
import Derived.Test.YtlcablcpcbmgeaaGreatDoorPx0
import Derived.Test.YtlcablcpcbmgeaaGreatDoorPx6
import Derived.Test.YtlcablcpcbmgeaaGreatDoorPx7
import Derived.Test.YtlcablcpcbmgeaaGreatDoorPx8
import Derived.Test.YtlcablcpcbmgeaaGreatDoorNumF
import Derived.Lib.SmallJoins
namespace Go.Proofs.YtlcablcpcbmgeaaGreatDoor.P
open Go.RowKit Go.Proofs.YtlcablcpcbmgeaaGreatDoorW.PrintWords Go.Proofs.YtlcablcpcbmgeaaGreatDoorW.PrintLast Go.Proofs.YtlcablcpcbmgeaaGreatDoorW.PrintMore
attribute [local go_sem] max2_int min2_int max_two min_two max_three min_three max_four min_four   -- for this text's walks alone
set_option linter.unusedVariables false
set_option linter.unusedSimpArgs false

/-! ### num_Hex: function 26 -/
def num_Hex.f (a0 : Int) : Option (ByteArray) := if a0 < 0 then some ⟨#[]⟩ else if a0 ≤ 9223372036854775807 then some ⟨(Num.hexT a0.toNat).toArray⟩ else none
set_option maxHeartbeats 8000000 in
set_option maxRecDepth 100000 in
theorem num_Hex.calls (a0 : Int) (r : ByteArray) (w : World)  (h : num_Hex.f a0 = some r) (htab : TabAt w) :
    Calls Tryz.prog 26 #[.int .i64 a0] w fun e w' => e = .returned (.string r) ∧ Below w.heap.size w w' := by
  unfold num_Hex.f at h
  by_cases hn : a0 < 0
  · rw [if_pos hn] at h
    obtain rfl := Option.some.inj h
    go_enter Tryz.func26, Tryz.ntmps26
    go_wp2
    go_ret
    exact ⟨rfl, Below.refl _ _⟩
  · rw [if_neg hn] at h
    by_cases h0 : a0 ≤ 9223372036854775807
    · rw [if_pos h0] at h
      have hr := Option.some.inj h
      clear h
      have hn0 : 0 ≤ a0 := by omega
      have HTAB := Aside0.mk htab
      clear htab
      have HB := Aside0.mk (Below.refl w.heap.size w)
      have hF : strconv_FormatInt_56.f a0 16 = some ⟨(Num.hexl a0.toNat).toArray⟩ := by unfold strconv_FormatInt_56.f; rw [if_pos ⟨rfl, hn0, h0⟩]
      have hlen := Num.hexl_len 15 a0.toNat (by omega)
      obtain ⟨t, ht⟩ : ∃ t : ByteArray, t = ⟨(Lib.toUpperA (Num.hexl a0.toNat)).toArray⟩ := ⟨_, rfl⟩
      have hU : strings_ToUpper.f ⟨(Num.hexl a0.toNat).toArray⟩ = some t := by
        unfold strings_ToUpper.f
        rw [if_pos ⟨by show (List.toArray _).size ≤ _; rw [List.size_toArray]; omega, by rw [List.all_eq_true]; exact fun c hc => decide_eq_true (Num.hexl_ascii a0.toNat c hc)⟩, ht]
      have hts : t.size = (Num.hexl a0.toNat).length := by rw [ht]; show (List.toArray _).size = _; rw [List.size_toArray]; exact List.length_map ..
      have HR := Aside0.mk hr
      have HT2 := Aside0.mk ht
      clear hr ht
      by_cases h8 : t.size < 8
      · have hi8 : (t.size : Int) < 8 := by omega
        obtain ⟨q, hq⟩ : ∃ q : ByteArray, q = ⟨(List.replicate (8 - t.size) 48).toArray⟩ := ⟨_, rfl⟩
        have hQ : strings_Repeat.f ⟨#[48]⟩ (8 - (t.size : Int)) = some q := by
          unfold strings_Repeat.f
          have e : (8 - (t.size : Int)).toNat = 8 - t.size := by omega
          have e1 : (⟨#[48]⟩ : ByteArray).size = 1 := rfl
          rw [if_pos ⟨by omega, by omega, by rw [e, e1]; omega⟩, hq, e, Num.rep48]
        have hqs : q.size ≤ 8 := by rw [hq]; show (List.toArray _).size ≤ _; rw [List.size_toArray, List.length_replicate]; omega
        have b7 : (9223372036854775807 < 2 + q.size) = False := eq_false (by omega)
        have b8 : (9223372036854775807 < 2 + q.size + t.size) = False := eq_false (by omega)
        have b9 : (9223372036854775807 < ((⟨#[48, 120]⟩ : ByteArray) ++ q).size + t.size) = False := eq_false (by rw [ByteArray.size_append]; show ¬ (9223372036854775807 < 2 + q.size + t.size); omega)
        have FIN : ((⟨#[48, 120]⟩ : ByteArray) ++ q) ++ t = r := by
          have hq2 : q = ⟨(List.replicate (8 - (Num.hexl a0.toNat).length) 48).toArray⟩ := by rw [← hts]; exact hq
          rw [← HR.out, hq2, HT2.out]
          apply Go.WideShapes.bytes_inj
          rw [Go.Joins.data_append, Go.Joins.data_append]
          simp [Num.hexT]
        have HF := Aside0.mk FIN
        clear FIN hq hqs hts hlen h8 hn h0
        go_enter Tryz.func26, Tryz.ntmps26
        go_wp2_with (first
          | (go_at_call 56; (with_reducible refine (strconv_FormatInt_56.calls a0 16 _ _ hF ?tb0_).mono ?_); (case tb0_ => exact tb_ HTAB HB); rintro e w9 ⟨rfl, hb⟩; replace HB := bs_ HB hb; clear hb)
          | (go_at_call 55; (with_reducible refine (strings_ToUpper.calls _ t _ hU).mono ?_); rintro e w9 ⟨rfl, hb⟩; replace HB := bs_ HB hb; clear hb)
          | (go_at_call 57; (with_reducible refine (strings_Repeat.calls _ _ q _ hQ).mono ?_); rintro e w9 ⟨rfl, hb⟩; replace HB := bs_ HB hb; clear hb))
        go_ret
        exact ⟨by rw [← HF.out]; rfl, HB.out⟩
      · have hi8 : 8 ≤ (t.size : Int) := by omega
        have hi9 : (t.size : Int) ≤ 16 := by omega
        have hQ : strings_Repeat.f ⟨#[48]⟩ 0 = some ⟨#[]⟩ := by
          unfold strings_Repeat.f
          rw [if_pos ⟨by omega, by omega, by simp⟩]
          rfl
        have b8 : (9223372036854775807 < 2 + t.size) = False := eq_false (by omega)
        have b9 : (9223372036854775807 < ((⟨#[48, 120]⟩ : ByteArray) ++ (⟨#[]⟩ : ByteArray)).size + t.size) = False := eq_false (by rw [ByteArray.size_append]; show ¬ (9223372036854775807 < 2 + 0 + t.size); omega)
        have FIN : ((⟨#[48, 120]⟩ : ByteArray) ++ (⟨#[]⟩ : ByteArray)) ++ t = r := by
          rw [← HR.out, HT2.out]
          apply Go.WideShapes.bytes_inj
          rw [Go.Joins.data_append, Go.Joins.data_append]
          simp [Num.hexT, show 8 - (Num.hexl a0.toNat).length = 0 by omega]
        have HF := Aside0.mk FIN
        clear FIN hts hlen h8 hn h0
        go_enter Tryz.func26, Tryz.ntmps26
        go_wp2_with (first
          | (go_at_call 56; (with_reducible refine (strconv_FormatInt_56.calls a0 16 _ _ hF ?tb0_).mono ?_); (case tb0_ => exact tb_ HTAB HB); rintro e w9 ⟨rfl, hb⟩; replace HB := bs_ HB hb; clear hb)
          | (go_at_call 55; (with_reducible refine (strings_ToUpper.calls _ t _ hU).mono ?_); rintro e w9 ⟨rfl, hb⟩; replace HB := bs_ HB hb; clear hb)
          | (go_at_call 57; (with_reducible refine (strings_Repeat.calls _ _ _ _ hQ).mono ?_); rintro e w9 ⟨rfl, hb⟩; replace HB := bs_ HB hb; clear hb))
        go_ret
        exact ⟨by rw [← HF.out]; rfl, HB.out⟩
    · rw [if_neg h0] at h; cases h

end Go.Proofs.YtlcablcpcbmgeaaGreatDoor.P
