/- Laid by a program of this session's own (wip/wprint.py, over the kit's print.py): functions of the given program as plain Lean functions, and that the program's calls come to their answers. -/
import Derived.Test.YtlcablcpcbmgeaaGreatDoorPx0
import Derived.Shelf.Strings.FieldsFuncAny
namespace Go.Proofs.YtlcablcpcbmgeaaGreatDoor.P
open Go.RowKit Go.Proofs.YtlcablcpcbmgeaaGreatDoorW.PrintWords Go.Proofs.YtlcablcpcbmgeaaGreatDoorW.PrintLast Go.Proofs.YtlcablcpcbmgeaaGreatDoorW.PrintMore
attribute [local go_sem] max2_int min2_int max_two min_two max_three min_three max_four min_four   -- for this text's walks alone
set_option linter.unusedVariables false
set_option linter.unusedSimpArgs false

/-! ### maptext_split: function 59 -/
def isBl (r : Nat) : Bool := r == 32 || r == 9
set_option maxHeartbeats 4000000 in
theorem isBl_at (w : World) : PredAt Tryz.prog 80 #[] encR isBl w := fun W r _ => by
  have h3 : isBl r = (r == 32 || r == 9) := rfl
  unfold FnGives encR
  rw [h3]
  clear h3
  by_cases h1 : r = 32
  · subst h1
    go_enter Tryz.func80, Tryz.ntmps80
    go_wp2
    go_ret
    exact ⟨rfl, 0, rfl⟩
  · have e1 : ((r : Int) == 32) = false := beq_eq_false_iff_ne.mpr (by omega)
    have e1n : (r == 32) = false := beq_eq_false_iff_ne.mpr h1
    rw [e1n, Bool.false_or]
    by_cases h2 : r = 9
    · subst h2
      go_enter Tryz.func80, Tryz.ntmps80
      go_wp2
      go_ret
      exact ⟨rfl, 0, rfl⟩
    · have e2 : ((r : Int) == 9) = false := beq_eq_false_iff_ne.mpr (by omega)
      have e2n : (r == 9) = false := beq_eq_false_iff_ne.mpr h2
      rw [e2n]
      have d1 : decide ((r : Int) = 32) = false := decide_eq_false (by omega)
      have d2 : decide ((r : Int) = 9) = false := decide_eq_false (by omega)
      go_enter Tryz.func80, Tryz.ntmps80
      go_wp2
      go_ret
      exact ⟨rfl, 0, rfl⟩
def maptext_split.f (a0 : ByteArray) : Option (List ByteArray) := if a0.size ≤ 1000000 then some (Lib.goFieldsP isBl a0) else none
set_option maxHeartbeats 8000000 in
set_option maxRecDepth 100000 in
theorem maptext_split.calls (a0 : ByteArray) (r : List ByteArray) (w : World)  (h : maptext_split.f a0 = some r) :
    Calls Tryz.prog 59 #[.string a0] w fun e w' => ∃ v0_ : Value, e = .returned (v0_) ∧ Kd.R Kd.string 9 w' w.heap.size (fun _ => True) v0_ r ∧ Below w.heap.size w w' := by
  unfold maptext_split.f at h
  by_cases h0 : a0.size ≤ 1000000
  · rw [if_pos h0] at h
    obtain rfl := Option.some.inj h
    clear h
    have HZ := Aside0.mk h0
    clear h0
    have hmf : ∀ (fn : Fn) (first cap : Array Value) (w : World), (Instr.makeFunc fn first cap).run Tryz.prog w = .ok (.func fn first cap) w := fun _ _ _ _ => rfl
    go_enter Tryz.func59, Tryz.ntmps59
    go_wp2_with (go_at_call 79; refine (Go.Proofs.Tryz.strings_FieldsFunc 80 #[] (enters_of Tryz.func80 (by kernel_rfl) rfl) isBl a0 _ (by have := HZ.out; omega) (isBl_at _)).mono ?_; rintro e w1 ⟨A, rfl, hge, hown, hb⟩; have HB := Aside0.mk hb; have HO := Aside0.mk hown; clear hb hown hge)
    go_ret
    exact ⟨_, rfl, Kd.R_of_own (h1 := fun _ => rfl) HO.out (fun _ _ => trivial), HB.out⟩
  · rw [if_neg h0] at h; cases h

end Go.Proofs.YtlcablcpcbmgeaaGreatDoor.P
