/- Laid by a program of this session's own (wip/wprint.py, over the kit's print.py): functions of the given program as plain Lean functions, and that the program's calls come to their answers. -/
import Derived.Test.YtbmhfnncagncmaaDoorPx0
import Derived.Test.YtbmhfnncagncmaaDoorPx9
import Derived.Test.YtbmhfnncagncmaaDoorNumD
namespace Go.Proofs.YtbmhfnncagncmaaDoor.P
open Go.RowKit Go.Proofs.YtbmhfnncagncmaaDoorW.PrintWords Go.Proofs.YtbmhfnncagncmaaDoorW.PrintLast Go.Proofs.YtbmhfnncagncmaaDoorW.PrintMore
attribute [local go_sem] max2_int min2_int max_two min_two max_three min_three max_four min_four   -- for this text's walks alone
set_option linter.unusedVariables false
set_option linter.unusedSimpArgs false

/-! ### num_digits: function 58 -/
def num_digits.f (a0 : ByteArray) (a1 : Int) (a2 : Int) : Option (Int × Bool) := if (a0.size : Int) > a2 then some (0, false) else if (a1 = 10 ∨ a1 = 16) ∧ a0.size ≤ 100000 then some (Num.val (Num.dg a1.toNat a0.data.toList)) else none
set_option maxHeartbeats 8000000 in
set_option maxRecDepth 100000 in
theorem num_digits.calls (a0 : ByteArray) (a1 : Int) (a2 : Int) (r1 : Int) (r2 : Bool) (w : World)  (h : num_digits.f a0 a1 a2 = some (r1, r2)) (htab : TabAt w) :
    Calls Tryd.prog 58 #[.string a0, .int .i64 a1, .int .i64 a2] w fun e w' => e = .returned (.tuple #[.int .i64 r1, .bool r2]) ∧ Below w.heap.size w w' := by
  unfold num_digits.f at h
  by_cases hlen : (a0.size : Int) > a2
  · rw [if_pos hlen] at h
    obtain ⟨rfl, rfl⟩ : _ ∧ _ := by simpa using Option.some.inj h
    go_enter Tryd.func58, Tryd.ntmps58
    go_wp2
    go_ret2
    exact ⟨rfl, Below.refl _ _⟩
  · rw [if_neg hlen] at h
    by_cases h0 : (a1 = 10 ∨ a1 = 16) ∧ a0.size ≤ 100000
    · rw [if_pos h0] at h
      have hv := Option.some.inj h
      clear h
      have HT := Aside0.mk htab
      clear htab
      obtain ⟨hB, hs⟩ := h0
      have hlen' : (a0.size : Int) ≤ a2 := by omega
      clear hlen
      rcases Num.pub_parse a1 hB a0 hs w HT.out with ⟨u, hu, hd, hc⟩ | ⟨hd, hc⟩
      · rw [hd] at hv
        clear hd
        by_cases hm : u ≤ 4611686018427387904
        · rw [if_pos hm] at hv
          obtain ⟨rfl, rfl⟩ : (u : Int) = r1 ∧ true = r2 := by simpa [Num.val] using hv
          clear hv hB hs
          have hu0 : (0 : Int) ≤ (u : Int) := by omega
          obtain ⟨n, hn⟩ : ∃ n : Int, n = (u : Int) := ⟨_, rfl⟩
          rw [← hn] at hc hu0 ⊢
          have hn1 : n ≤ 4611686018427387904 := by omega
          have hmay : off_May.f n = some true := by unfold off_May.f; rw [if_pos (by omega)]; simpa using hn1
          clear hn hm hu
          go_enter Tryd.func58, Tryd.ntmps58
          go_wp2_with (first
            | (go_at_call 65; refine hc.mono ?_; rintro e w1 ⟨rfl, hb⟩; have HB := Aside0.mk hb; clear hb)
            | (go_at_call 52; refine (off_May.calls _ true _ hmay).mono ?_; rintro e w2 ⟨rfl, nq, rfl⟩))
          go_ret2
          exact ⟨rfl, bh_ HB⟩
        · rw [if_neg hm] at hv
          obtain ⟨rfl, rfl⟩ : (0 : Int) = r1 ∧ false = r2 := by simpa [Num.val] using hv
          clear hv hB hs
          obtain ⟨n, hn⟩ : ∃ n : Int, n = (u : Int) := ⟨_, rfl⟩
          rw [← hn] at hc
          have hn0 : 0 ≤ n := by omega
          have hn1 : n ≤ 9223372036854775807 := by omega
          have hmay : off_May.f n = some false := by unfold off_May.f; rw [if_pos (by omega)]; simpa using (show 4611686018427387904 < n by omega)
          clear hn hm hu
          go_enter Tryd.func58, Tryd.ntmps58
          go_wp2_with (first
            | (go_at_call 65; refine hc.mono ?_; rintro e w1 ⟨rfl, hb⟩; have HB := Aside0.mk hb; clear hb)
            | (go_at_call 52; refine (off_May.calls _ false _ hmay).mono ?_; rintro e w2 ⟨rfl, nq, rfl⟩))
          go_ret2
          exact ⟨rfl, bh_ HB⟩
      · rw [hd] at hv
        obtain ⟨rfl, rfl⟩ : (0 : Int) = r1 ∧ false = r2 := by simpa [Num.val] using hv
        clear hv hB hs hd
        go_enter Tryd.func58, Tryd.ntmps58
        go_wp2_with (first
          | (go_at_call 65; refine hc.mono ?_; rintro e w1 ⟨v, N, rfl, hb⟩; have HB := Aside0.mk hb; clear hb))
        go_ret2
        exact ⟨rfl, HB.out⟩
    · rw [if_neg h0] at h; cases h

end Go.Proofs.YtbmhfnncagncmaaDoor.P
