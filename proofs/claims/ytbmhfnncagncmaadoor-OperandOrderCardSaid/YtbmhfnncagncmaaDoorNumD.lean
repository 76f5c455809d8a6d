/- The walk of strconv.ParseUint at bases 10 and 16, at 63 bits: a number and no error, or an error. No conditions beyond a text's length and the library's variables. -/
import Derived.Test.YtbmhfnncagncmaaDoorTab
import Derived.Test.YtbmhfnncagncmaaDoorNumP
import Derived.Lib.AtoiErrMem
import Derived.WalkKit
import Derived.BigCall
import Derived.BigGuard
namespace Go.Proofs.YtbmhfnncagncmaaDoor.Num
open Go.RowKit Go.Proofs.YtbmhfnncagncmaaDoorW.PrintWords Go.Proofs.YtbmhfnncagncmaaDoorW.PrintLast Go.Proofs.YtbmhfnncagncmaaDoor.P
set_option linter.unusedVariables false
set_option linter.unusedSimpArgs false
def inner (s : ByteArray) (B : Int) : Lib.NumEnd Nat := if s.size = 0 then .ofOption none else pu B.toNat 0 s.data.toList
theorem inner_calls (B : Int) (hB : B = 10 ∨ B = 16) (s : ByteArray) (hs : s.size ≤ 100000) (w : World) : Calls Tryd.prog 69 #[.string s, .int .i64 B, .int .i64 63] w fun e w' => e = .returned (Lib.uintTupleM 104 9223372036854775807 (inner s B)) ∧ Below w.heap.size w w' := by
  unfold inner
  by_cases h0 : s.size = 0
  · have ht : s = ⟨#[]⟩ := by
      apply ByteArray.ext
      exact Array.eq_empty_of_size_eq_zero h0
    subst ht
    rw [if_pos h0]
    exact (Tryd.internal_strconv_ParseUint_empty B 63 w).mono fun e w' ⟨he, hw⟩ => ⟨he, hw ▸ Below.refl _ _⟩
  · rw [if_neg h0]
    rcases hB with rfl | rfl
    · exact (parse10 s h0 (by omega) w).mono fun e w' ⟨he, hw⟩ => ⟨he, hw ▸ Lib.bytesWorld_below _ _ _⟩
    · exact (parse16 s h0 (by omega) w).mono fun e w' ⟨he, hw⟩ => ⟨he, hw ▸ Lib.bytesWorld_below _ _ _⟩
theorem pub_ok (B : Int) (s : ByteArray) (w : World) (u : Nat) (hI : Calls Tryd.prog 69 #[.string s, .int .i64 B, .int .i64 63] w fun e w' => e = .returned (.tuple #[.int .u64 u, .nilIface]) ∧ Below w.heap.size w w') :
    Calls Tryd.prog 65 #[.string s, .int .i64 B, .int .i64 63] w fun e w' => e = .returned (.tuple #[.int .u64 u, .nilIface]) ∧ Below w.heap.size w w' := by
  go_enter Tryd.func65, Tryd.ntmps65
  go_wp2_with (go_at_call 69; refine hI.mono ?_; rintro e W1 ⟨rfl, hb⟩)
  go_ret2
  exact ⟨rfl, hb⟩
def Bad (w : World) (e : Ending) (w' : World) : Prop := ∃ (v : Int) (N : Nat), e = .returned (.tuple #[.int .u64 v, .iface 106 (.pointer (some ⟨N, 0, none⟩))]) ∧ Below w.heap.size w w'
theorem pub_syn (B : Int) (s : ByteArray) (hs : s.size ≤ 100000) (w : World) (ht : TabAt w) (hI : Calls Tryd.prog 69 #[.string s, .int .i64 B, .int .i64 63] w fun e w' => e = .returned (.tuple #[.int .u64 0, .iface 104 (.int .i64 2)]) ∧ Below w.heap.size w w') :
    Calls Tryd.prog 65 #[.string s, .int .i64 B, .int .i64 63] w (Bad w) := by
  have HT := Lib.hid ht
  clear ht
  have hlim : s.size ≤ 281474976710656 := by omega
  go_enter Tryd.func65, Tryd.ntmps65
  go_wp2_with (go_at_call 69; refine hI.mono ?_; rintro e W1 ⟨rfl, hb⟩; have HB := Lib.hid hb; clear hb)
  obtain ⟨tp, p, hv⟩ := (HT.out.below HB.out).syn
  have h56 := Tryd.strconv_toError_syntax ⟨#[80, 97, 114, 115, 101, 85, 105, 110, 116]⟩ s B 63 _ _ hlim hv (Or.inr ⟨tp, p, rfl⟩)
  clear hv
  go_wp2_with (go_at_call 70; refine h56.mono ?_; rintro e W2 ⟨N, rfl, h1, h2, h3⟩)
  go_ret2
  exact ⟨_, N, rfl, HB.out.trans (h3.mono HB.out.size)⟩
theorem pub_rng (B : Int) (s : ByteArray) (hs : s.size ≤ 100000) (w : World) (ht : TabAt w) (hI : Calls Tryd.prog 69 #[.string s, .int .i64 B, .int .i64 63] w fun e w' => e = .returned (.tuple #[.int .u64 9223372036854775807, .iface 104 (.int .i64 1)]) ∧ Below w.heap.size w w') :
    Calls Tryd.prog 65 #[.string s, .int .i64 B, .int .i64 63] w (Bad w) := by
  have HT := Lib.hid ht
  clear ht
  have hlim : s.size ≤ 281474976710656 := by omega
  go_enter Tryd.func65, Tryd.ntmps65
  go_wp2_with (go_at_call 69; refine hI.mono ?_; rintro e W1 ⟨rfl, hb⟩; have HB := Lib.hid hb; clear hb)
  obtain ⟨tp, p, hv⟩ := (HT.out.below HB.out).rng
  have h56 := Tryd.strconv_toError_range ⟨#[80, 97, 114, 115, 101, 85, 105, 110, 116]⟩ s B 63 _ _ hlim hv (Or.inr ⟨tp, p, rfl⟩)
  clear hv
  go_wp2_with (go_at_call 70; refine h56.mono ?_; rintro e W2 ⟨N, rfl, h1, h2, h3⟩)
  go_ret2
  exact ⟨_, N, rfl, HB.out.trans (h3.mono HB.out.size)⟩
theorem pub_parse (B : Int) (hB : B = 10 ∨ B = 16) (s : ByteArray) (hs : s.size ≤ 100000) (w : World) (ht : TabAt w) :
    (∃ u : Nat, u ≤ 9223372036854775807 ∧ dg B.toNat s.data.toList = (if u ≤ 4611686018427387904 then some u else none) ∧ Calls Tryd.prog 65 #[.string s, .int .i64 B, .int .i64 63] w fun e w' => e = .returned (.tuple #[.int .u64 u, .nilIface]) ∧ Below w.heap.size w w') ∨
    (dg B.toNat s.data.toList = none ∧ Calls Tryd.prog 65 #[.string s, .int .i64 B, .int .i64 63] w fun e w' => ∃ (v : Int) (N : Nat), e = .returned (.tuple #[.int .u64 v, .iface 106 (.pointer (some ⟨N, 0, none⟩))]) ∧ Below w.heap.size w w') := by
  have hI := inner_calls B hB s hs w
  have hB1 : 1 ≤ B.toNat := by omega
  by_cases h0 : s.size = 0
  · have hi : inner s B = .ofOption none := by unfold inner; rw [if_pos h0]
    have hl : s.data.toList = [] := List.length_eq_zero_iff.1 (show s.data.toList.length = 0 by rw [Array.length_toList]; exact h0)
    rw [hi] at hI
    exact .inr ⟨by unfold dg; rw [if_pos hl], pub_syn B s hs w ht hI⟩
  · have hl : s.data.toList ≠ [] := fun h => h0 (by have : s.data.toList.length = 0 := by rw [h]; rfl
                                                    rw [Array.length_toList] at this; exact this)
    have hi : inner s B = pu B.toNat 0 s.data.toList := by unfold inner; rw [if_neg h0]
    rcases hp : pu B.toNat 0 s.data.toList with u | _ | _
    · rw [hi, hp] at hI
      exact .inl ⟨u, ((pu_nu hB1 _ 0 (by omega)).1 u hp).2, dg_ok hB1 hl hp, pub_ok B s w u hI⟩
    · rw [hi, hp] at hI
      exact .inr ⟨dg_syntax hB1 hp, pub_syn B s hs w ht hI⟩
    · rw [hi, hp] at hI
      exact .inr ⟨dg_range hB1 hp, pub_rng B s hs w ht hI⟩
end Go.Proofs.YtbmhfnncagncmaaDoor.Num
