/- The walks of the two closures of flags, and of the reader's method words with either. No conditions. -/
import Derived.Test.YtbmhfnncagncmaaDoorPx0
import Derived.Test.YtbmhfnncagncmaaDoorOprB
import Derived.StillTailTactics
namespace Go.Proofs.YtbmhfnncagncmaaDoor.P
open Go.RowKit Go.Proofs.YtbmhfnncagncmaaDoorW.PrintWords Go.Proofs.YtbmhfnncagncmaaDoorW.PrintLast
-- names: Kd.R_set Kd.R_slice Kd.R_reads' Kd.at_string Kd.R_below
set_option linter.unusedVariables false
set_option linter.unusedSimpArgs false
def convS (p : PL) (word : ByteArray) : PL × Bool := match fieldO word with
  | some o => (p.setO o, true)
  | none => (p, false)
def isFull (word : ByteArray) : Bool := word.toList == [102, 117, 108, 108, 98, 108, 111, 99, 107]
def iflagS (p : PL) (word : ByteArray) : PL × Bool := ({ p with full := p.full || isFull word }, isFull word)
/-- At most the plan's block has turned, and it holds a plan. -/
def SetP (W w' : World) (gp : Nat) (p' : PL) : Prop := (∃ X, Below W.heap.size W X ∧ (w' = X ∨ ∃ i v, w' = X.setCell ⟨gp, i, none⟩ v)) ∧ w'.heap[gp]? = some (.cells p'.c 25 (0, 0))
theorem fieldO_mem {word : ByteArray} {o : Nat} (h : fieldO word = some o) : o ∈ offs := by
  unfold fieldO at h
  split at h
  · cases h
  · obtain rfl := Option.some.inj h
    exact offs_mem _
set_option maxHeartbeats 4000000 in
set_option maxRecDepth 100000 in
theorem clos29 (gq gp : Nat) (p : PL) (word : ByteArray) (W : World) (hq : W.heap[gq]? = some (.cells #[.pointer (some ⟨gp, 0, none⟩)] 46 (0, 0))) (hp : W.heap[gp]? = some (.cells p.c 25 (0, 0))) :
    Calls Tryd.prog 29 (#[.string word] ++ #[.pointer (some ⟨gq, 0, none⟩)]) W fun e w' => e = .returned (.bool (convS p word).2) ∧ SetP W w' gp (convS p word).1 := by
  show Calls Tryd.prog 29 #[.string word, .pointer (some ⟨gq, 0, none⟩)] W _
  have q0 : W.cell? ⟨gq, 0, none⟩ = some (.pointer (some ⟨gp, 0, none⟩)) := (blk_cell hq 0).trans rfl
  have HP := Aside0.mk hp
  clear hq hp
  have hf := field_walk gp word W
  unfold convS
  cases hfo : fieldO word with
  | none =>
    rw [hfo] at hf
    have HF := Aside0.mk hf
    clear hf hfo
    go_enter Tryd.func29, Tryd.ntmps29
    go_wp2_with (go_at_call 30; refine HF.out.mono ?_; rintro e w1 ⟨rfl, hb⟩; have HB := Aside0.mk hb; clear hb)
    go_ret
    exact ⟨rfl, ⟨_, HB.out, .inl rfl⟩, blk_below HP.out HB.out⟩
  | some o =>
    rw [hfo] at hf
    have HF := Aside0.mk hf
    have HO := Aside0.mk (fieldO_mem hfo)
    clear hf hfo
    obtain ⟨b, hb0⟩ := offs_cell p o HO.out
    have HC := Aside0.mk hb0
    clear hb0
    go_enter Tryd.func29, Tryd.ntmps29
    go_wp2_with (go_at_call 30; refine HF.out.mono ?_; rintro e w1 ⟨rfl, hb⟩; have HB := Aside0.mk hb; clear hb q0; have c0 : w1.cell? ⟨gp, o, none⟩ = some (.bool b) := (blk_cell (blk_below HP.out HB.out) o).trans HC.out; have f0 := blk_frozen (blk_below HP.out HB.out) o)
    go_ret
    exact ⟨rfl, ⟨_, HB.out, .inr ⟨_, _, rfl⟩⟩, by rw [← setO_c p o HO.out]; exact blk_set (blk_below HP.out HB.out) o _⟩
set_option maxHeartbeats 4000000 in
set_option maxRecDepth 100000 in
theorem clos31 (gq gp : Nat) (p : PL) (word : ByteArray) (W : World) (hq : W.heap[gq]? = some (.cells #[.pointer (some ⟨gp, 0, none⟩)] 46 (0, 0))) (hp : W.heap[gp]? = some (.cells p.c 25 (0, 0))) :
    Calls Tryd.prog 31 (#[.string word] ++ #[.pointer (some ⟨gq, 0, none⟩)]) W fun e w' => e = .returned (.bool (iflagS p word).2) ∧ SetP W w' gp (iflagS p word).1 := by
  show Calls Tryd.prog 31 #[.string word, .pointer (some ⟨gq, 0, none⟩)] W _
  have q0 : W.cell? ⟨gq, 0, none⟩ = some (.pointer (some ⟨gp, 0, none⟩)) := (blk_cell hq 0).trans rfl
  have c0 : W.cell? ⟨gp, 18, none⟩ = some (.bool p.full) := (blk_cell hp 18).trans rfl
  have f0 := blk_frozen hp 18
  have HP := Aside0.mk hp
  clear hq hp
  have hi : isFull word = (word.toList == [102, 117, 108, 108, 98, 108, 111, 99, 107]) := rfl
  unfold iflagS
  obtain ⟨b, hb⟩ : ∃ b, b = isFull word := ⟨_, rfl⟩
  rw [← hb] at hi ⊢
  replace hi := hi.symm
  clear hb
  obtain ⟨q, hq⟩ : ∃ q, q = p.full := ⟨_, rfl⟩
  have HQ := Aside0.mk hq
  rw [← hq] at c0 ⊢
  clear hq
  cases q <;> cases b <;>
  (go_enter Tryd.func31, Tryd.ntmps31
   go_wp2
   go_still_tail 11, (by kernel_rfl)
   go_wp2
   go_ret
   exact ⟨rfl, ⟨_, below_drew1 (Below.refl _ _), .inr ⟨_, _, rfl⟩⟩, blk_set (blk_drew HP.out) 18 _⟩)
end Go.Proofs.YtbmhfnncagncmaaDoor.P
