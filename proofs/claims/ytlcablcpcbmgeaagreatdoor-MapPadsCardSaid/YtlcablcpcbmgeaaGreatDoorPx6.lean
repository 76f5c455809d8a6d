/- Laid by a program of this session's own (wip/wprint.py, over the kit's print.py): functions of the given program as plain Lean functions, and that the program's calls come to their answers. -/
import Derived.Test.YtlcablcpcbmgeaaGreatDoorPx0
namespace Go.Proofs.YtlcablcpcbmgeaaGreatDoor.P
open Go.RowKit Go.Proofs.YtlcablcpcbmgeaaGreatDoorW.PrintWords Go.Proofs.YtlcablcpcbmgeaaGreatDoorW.PrintLast Go.Proofs.YtlcablcpcbmgeaaGreatDoorW.PrintMore
attribute [local go_sem] max2_int min2_int max_two min_two max_three min_three max_four min_four   -- for this text's walks alone
set_option linter.unusedVariables false
set_option linter.unusedSimpArgs false

-- none

-- none

-- none

-- none

-- none

-- none

-- none

-- none

-- none

-- none

-- none

-- none

-- none

/-! ### strconv_Itoa_52: function 52 -/
def strconv_Itoa_52.f (a0 : Int) : Option (ByteArray) := if -9223372036854775808 ≤ a0 ∧ a0 ≤ 9223372036854775807 then some ⟨(Lib.itoa a0).toArray⟩ else none
set_option maxHeartbeats 8000000 in
set_option maxRecDepth 100000 in
theorem strconv_Itoa_52.calls (a0 : Int) (r : ByteArray) (w : World)  (h : strconv_Itoa_52.f a0 = some r) (htab : TabAt w) :
    Calls Tryz.prog 52 #[.int .i64 a0] w fun e w' => e = .returned (.string r) ∧ Below w.heap.size w w' := by
  unfold strconv_Itoa_52.f at h
  by_cases h0 : -9223372036854775808 ≤ a0 ∧ a0 ≤ 9223372036854775807
  · rw [if_pos h0] at h
    obtain rfl := Option.some.inj h
    refine (Go.Proofs.Tryz.strconv_Itoa a0 h0.1 h0.2 _ htab.pow).mono ?_
    rintro e w' ⟨rfl, k, os, rfl⟩
    exact ⟨rfl, Lib.below_grow _ _ (Nat.le_refl _) _ _⟩
  · rw [if_neg h0] at h; cases h

/-! ### num_Dec: function 22 -/
def num_Dec.f (a0 : Int) : Option (ByteArray) := (strconv_Itoa_52.f a0).bind fun t113 => (some t113)
set_option maxHeartbeats 8000000 in
set_option maxRecDepth 100000 in
theorem num_Dec.calls (a0 : Int) (r : ByteArray) (w : World) (h : num_Dec.f a0 = some r) (htab : TabAt w) :
    Calls Tryz.prog 22 #[.int .i64 a0] w fun e w' => e = .returned (.string r) ∧ Below w.heap.size w w' := by
  have HTAB := Aside0.mk htab
  clear htab
  have HB := Aside0.mk (Below.refl w.heap.size w)
  have H : ((strconv_Itoa_52.f a0).bind fun t113 => (some t113)) = some r := h
  clear h
  replace H := Option.bind_eq_some_iff.mp H
  obtain ⟨t113, A20, H⟩ := H
  replace H : (some t113) = some r := H
  have A2 := Aside0.mk A20
  clear A20
  obtain rfl := Option.some.inj H
  go_enter Tryz.func22, Tryz.ntmps22
  go_wp2_with (first | ((with_reducible refine gate_callee (f := 52) rfl ?_); refine gl_ (some 4) rfl rfl Tryz.func52 (by kernel_rfl) rfl #[.int .i64 a0] rfl ?_; (with_reducible refine (strconv_Itoa_52.calls a0 t113 _ A2.out ?tb0_).mono ?_); (case tb0_ => exact tb_ HTAB HB); rintro e w3 ⟨rfl, hb⟩; refine ⟨_, rfl, ?_⟩; replace HB := bs_ HB hb; (try clear hb)))
  go_ret
  exact ⟨by first | rfl | (simp [errW_none, errW_some] <;> rfl) | (simp [*, errW_none, errW_some] <;> rfl), bh_ HB⟩

-- none

-- NOT PRINTED: function 53 (strings_Builder_copyCheck)

-- NOT PRINTED: function 24 (strings_Builder_WriteString)

-- NOT PRINTED: function 28 (strings_Builder_String)

-- none

-- NOT PRINTED: function 71 (strings_Builder_grow)

-- NOT PRINTED: function 54 (strings_Builder_Grow)

-- NOT PRINTED: function 72 (strings_Builder_WriteByte)

-- none

-- none

-- none

-- none

-- none

-- NOT PRINTED: function 87 (strings_Builder_WriteRune)

-- NOT PRINTED: function 88 (strings_Builder_Cap)

-- NOT PRINTED: function 73 (strings_Map)

-- none

-- none

-- none

-- none

-- none

/-! ### strings_ToUpper: function 55 -/
def strings_ToUpper.f (a0 : ByteArray) : Option (ByteArray) := if a0.size ≤ 140737488355328 ∧ a0.data.toList.all (fun c => decide (c.toNat < 128)) = true then some ⟨(Lib.toUpperA a0.data.toList).toArray⟩ else none
set_option maxHeartbeats 8000000 in
set_option maxRecDepth 100000 in
theorem strings_ToUpper.calls (a0 : ByteArray) (r : ByteArray) (w : World)  (h : strings_ToUpper.f a0 = some r) :
    Calls Tryz.prog 55 #[.string a0] w fun e w' => e = .returned (.string r) ∧ Below w.heap.size w w' := by
  unfold strings_ToUpper.f at h
  by_cases h0 : a0.size ≤ 140737488355328 ∧ a0.data.toList.all (fun c => decide (c.toNat < 128)) = true
  · rw [if_pos h0] at h
    obtain rfl := Option.some.inj h
    exact Go.Proofs.Tryz.strings_ToUpper_ascii a0 w h0.1 (fun j b hb => of_decide_eq_true (List.all_eq_true.1 h0.2 b (List.mem_of_getElem? hb)))
  · rw [if_neg h0] at h; cases h

end Go.Proofs.YtlcablcpcbmgeaaGreatDoor.P
