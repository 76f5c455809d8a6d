import Derived.Test.YtbmhfnncagncmaaGreatDoorPx0
namespace Go.Proofs.YtbmhfnncagncmaaGreatDoor.P
open Go.RowKit Go.Proofs.YtbmhfnncagncmaaGreatDoorW.PrintWords Go.Proofs.YtbmhfnncagncmaaGreatDoorW.PrintLast Go.Proofs.YtbmhfnncagncmaaGreatDoorW.PrintMore
attribute [local go_sem] max2_int min2_int max_two min_two max_three min_three max_four min_four
set_option linter.unusedVariables false
set_option linter.unusedSimpArgs false
def IsS28 (w0 W : World) (g : Nat) (f0 f1 f2 f3 f4 f5 f6 f7 : Bool) (f8 : Int) (f9 f10 : ByteArray) (f11 f12 f13 f14 f15 : Int) (f16 f17 f18 f19 f20 f21 f22 f23 f24 f25 : Bool) : Prop := W.heap[g]? = some (.cells #[.bool f0, .bool f1, .bool f2, .bool f3, .bool f4, .bool f5, .bool f6, .bool f7, .int .i64 f8, .string f9, .string f10, .int .i64 f11, .int .i64 f12, .int .i64 f13, .int .i64 f14, .int .i64 f15, .bool f16, .bool f17, .bool f18, .bool f19, .bool f20, .bool f21, .bool f22, .bool f23, .bool f24, .bool f25] 28 (0, 0)) ∧ w0.heap.size ≤ g
theorem IsS28.grown {w0 W : World} {g : Nat} {f0 f1 f2 f3 f4 f5 f6 f7 : Bool} {f8 : Int} {f9 f10 : ByteArray} {f11 f12 f13 f14 f15 : Int} {f16 f17 f18 f19 f20 f21 f22 f23 f24 f25 : Bool} {W1 : World} {row : Option Nat} (h : IsS28 w0 W g f0 f1 f2 f3 f4 f5 f6 f7 f8 f9 f10 f11 f12 f13 f14 f15 f16 f17 f18 f19 f20 f21 f22 f23 f24 f25) (hw : W.grownBy W1 row) (hne : some g ≠ row) : IsS28 w0 W1 g f0 f1 f2 f3 f4 f5 f6 f7 f8 f9 f10 f11 f12 f13 f14 f15 f16 f17 f18 f19 f20 f21 f22 f23 f24 f25 := by
 obtain ⟨hb, hg⟩ := h
 exact ⟨blk_grown hb hw hne, hg⟩
theorem IsS28.kept {w0 W : World} {g : Nat} {f0 f1 f2 f3 f4 f5 f6 f7 : Bool} {f8 : Int} {f9 f10 : ByteArray} {f11 f12 f13 f14 f15 : Int} {f16 f17 f18 f19 f20 f21 f22 f23 f24 f25 : Bool} {W1 : World} {S : Nat → Prop} (h : IsS28 w0 W g f0 f1 f2 f3 f4 f5 f6 f7 f8 f9 f10 f11 f12 f13 f14 f15 f16 f17 f18 f19 f20 f21 f22 f23 f24 f25) (hk : Kept W W1 S) (hne : ¬ S g) : IsS28 w0 W1 g f0 f1 f2 f3 f4 f5 f6 f7 f8 f9 f10 f11 f12 f13 f14 f15 f16 f17 f18 f19 f20 f21 f22 f23 f24 f25 := by
 obtain ⟨hb, hg⟩ := h
 exact ⟨blk_kept hb hk hne, hg⟩
theorem IsS28.below {w0 W : World} {g : Nat} {f0 f1 f2 f3 f4 f5 f6 f7 : Bool} {f8 : Int} {f9 f10 : ByteArray} {f11 f12 f13 f14 f15 : Int} {f16 f17 f18 f19 f20 f21 f22 f23 f24 f25 : Bool} {W1 : World} (h : IsS28 w0 W g f0 f1 f2 f3 f4 f5 f6 f7 f8 f9 f10 f11 f12 f13 f14 f15 f16 f17 f18 f19 f20 f21 f22 f23 f24 f25) (hw : Below W.heap.size W W1) : IsS28 w0 W1 g f0 f1 f2 f3 f4 f5 f6 f7 f8 f9 f10 f11 f12 f13 f14 f15 f16 f17 f18 f19 f20 f21 f22 f23 f24 f25 := h.grown (grown_of_below hw none) (by simp)
theorem IsS28.alloc {w0 W : World} {g : Nat} {f0 f1 f2 f3 f4 f5 f6 f7 : Bool} {f8 : Int} {f9 f10 : ByteArray} {f11 f12 f13 f14 f15 : Int} {f16 f17 f18 f19 f20 f21 f22 f23 f24 f25 : Bool} (h : IsS28 w0 W g f0 f1 f2 f3 f4 f5 f6 f7 f8 f9 f10 f11 f12 f13 f14 f15 f16 f17 f18 f19 f20 f21 f22 f23 f24 f25) (o : Obj) : IsS28 w0 (W.alloc o) g f0 f1 f2 f3 f4 f5 f6 f7 f8 f9 f10 f11 f12 f13 f14 f15 f16 f17 f18 f19 f20 f21 f22 f23 f24 f25 := h.below (below_alloc (Below.refl _ _) o)
theorem IsS28.drewN {w0 W : World} {g : Nat} {f0 f1 f2 f3 f4 f5 f6 f7 : Bool} {f8 : Int} {f9 f10 : ByteArray} {f11 f12 f13 f14 f15 : Int} {f16 f17 f18 f19 f20 f21 f22 f23 f24 f25 : Bool} (h : IsS28 w0 W g f0 f1 f2 f3 f4 f5 f6 f7 f8 f9 f10 f11 f12 f13 f14 f15 f16 f17 f18 f19 f20 f21 f22 f23 f24 f25) (m : Nat) : IsS28 w0 (W.drewN m) g f0 f1 f2 f3 f4 f5 f6 f7 f8 f9 f10 f11 f12 f13 f14 f15 f16 f17 f18 f19 f20 f21 f22 f23 f24 f25 := h
theorem IsS28.drew {w0 W : World} {g : Nat} {f0 f1 f2 f3 f4 f5 f6 f7 : Bool} {f8 : Int} {f9 f10 : ByteArray} {f11 f12 f13 f14 f15 : Int} {f16 f17 f18 f19 f20 f21 f22 f23 f24 f25 : Bool} (h : IsS28 w0 W g f0 f1 f2 f3 f4 f5 f6 f7 f8 f9 f10 f11 f12 f13 f14 f15 f16 f17 f18 f19 f20 f21 f22 f23 f24 f25) : IsS28 w0 W.drew g f0 f1 f2 f3 f4 f5 f6 f7 f8 f9 f10 f11 f12 f13 f14 f15 f16 f17 f18 f19 f20 f21 f22 f23 f24 f25 := h
theorem IsS28.at_ {w0 W : World} {g : Nat} {f0 f1 f2 f3 f4 f5 f6 f7 : Bool} {f8 : Int} {f9 f10 : ByteArray} {f11 f12 f13 f14 f15 : Int} {f16 f17 f18 f19 f20 f21 f22 f23 f24 f25 : Bool} {w' : World} {m : Nat} (hq : W.drewN m = w') (h : IsS28 w0 W g f0 f1 f2 f3 f4 f5 f6 f7 f8 f9 f10 f11 f12 f13 f14 f15 f16 f17 f18 f19 f20 f21 f22 f23 f24 f25) : IsS28 w0 w' g f0 f1 f2 f3 f4 f5 f6 f7 f8 f9 f10 f11 f12 f13 f14 f15 f16 f17 f18 f19 f20 f21 f22 f23 f24 f25 := by subst hq; exact IsS28.drewN h m
theorem IsS28.apart {w0 W : World} {g : Nat} {f0 f1 f2 f3 f4 f5 f6 f7 : Bool} {f8 : Int} {f9 f10 : ByteArray} {f11 f12 f13 f14 f15 : Int} {f16 f17 f18 f19 f20 f21 f22 f23 f24 f25 : Bool} {α : Type} {d : Kd α} {e base : Nat} {ok : Nat → Prop} {v : Value} {xs : List α} (h : IsS28 w0 W g f0 f1 f2 f3 f4 f5 f6 f7 f8 f9 f10 f11 f12 f13 f14 f15 f16 f17 f18 f19 f20 f21 f22 f23 f24 f25) (ho : d.R e W base ok v xs) (ht : ∀ q, q ∈ e :: d.E → q ≠ 28) : d.R e W base (fun k => ok k ∧ k ≠ g) v xs := by
 obtain ⟨hb, hg⟩ := h
 exact Kd.R_types ho hb ht
theorem IsS28.own_ne {w0 W : World} {g : Nat} {f0 f1 f2 f3 f4 f5 f6 f7 : Bool} {f8 : Int} {f9 f10 : ByteArray} {f11 f12 f13 f14 f15 : Int} {f16 f17 f18 f19 f20 f21 f22 f23 f24 f25 : Bool} {α : Type} {d : Kd α} {e base : Nat} {ok : Nat → Prop} {v : Value} {xs : List α} (h : IsS28 w0 W g f0 f1 f2 f3 f4 f5 f6 f7 f8 f9 f10 f11 f12 f13 f14 f15 f16 f17 f18 f19 f20 f21 f22 f23 f24 f25) (ho : d.R e W base ok v xs) (ht : e ≠ 28) : some g ≠ v.ownBlock := by
 obtain ⟨hb, hg⟩ := h
 exact Kd.R_ne ho hb ht
theorem IsS28.lt {w0 W : World} {g : Nat} {f0 f1 f2 f3 f4 f5 f6 f7 : Bool} {f8 : Int} {f9 f10 : ByteArray} {f11 f12 f13 f14 f15 : Int} {f16 f17 f18 f19 f20 f21 f22 f23 f24 f25 : Bool} (h : IsS28 w0 W g f0 f1 f2 f3 f4 f5 f6 f7 f8 f9 f10 f11 f12 f13 f14 f15 f16 f17 f18 f19 f20 f21 f22 f23 f24 f25) : g < W.heap.size := by
 obtain ⟨hb, hg⟩ := h
 exact blk_lt hb
theorem IsS28.ge {w0 W : World} {g : Nat} {f0 f1 f2 f3 f4 f5 f6 f7 : Bool} {f8 : Int} {f9 f10 : ByteArray} {f11 f12 f13 f14 f15 : Int} {f16 f17 f18 f19 f20 f21 f22 f23 f24 f25 : Bool} (h : IsS28 w0 W g f0 f1 f2 f3 f4 f5 f6 f7 f8 f9 f10 f11 f12 f13 f14 f15 f16 f17 f18 f19 f20 f21 f22 f23 f24 f25) : w0.heap.size ≤ g := by
 obtain ⟨hb, hg⟩ := h
 exact hg
theorem IsS28.far {w0 W : World} {g : Nat} {f0 f1 f2 f3 f4 f5 f6 f7 : Bool} {f8 : Int} {f9 f10 : ByteArray} {f11 f12 f13 f14 f15 : Int} {f16 f17 f18 f19 f20 f21 f22 f23 f24 f25 : Bool} {p : Addr} (h : IsS28 w0 W g f0 f1 f2 f3 f4 f5 f6 f7 f8 f9 f10 f11 f12 f13 f14 f15 f16 f17 f18 f19 f20 f21 f22 f23 f24 f25) (hne : g ≠ p.block) (u : Value) : IsS28 w0 (W.setCell p u) g f0 f1 f2 f3 f4 f5 f6 f7 f8 f9 f10 f11 f12 f13 f14 f15 f16 f17 f18 f19 f20 f21 f22 f23 f24 f25 := by
 obtain ⟨hb, hg⟩ := h
 exact ⟨blk_far hb hne u, hg⟩
theorem cellS28_0 {W : World} {g : Nat} {f0 f1 f2 f3 f4 f5 f6 f7 : Bool} {f8 : Int} {f9 f10 : ByteArray} {f11 f12 f13 f14 f15 : Int} {f16 f17 f18 f19 f20 f21 f22 f23 f24 f25 : Bool} (h : W.heap[g]? = some (.cells #[.bool f0, .bool f1, .bool f2, .bool f3, .bool f4, .bool f5, .bool f6, .bool f7, .int .i64 f8, .string f9, .string f10, .int .i64 f11, .int .i64 f12, .int .i64 f13, .int .i64 f14, .int .i64 f15, .bool f16, .bool f17, .bool f18, .bool f19, .bool f20, .bool f21, .bool f22, .bool f23, .bool f24, .bool f25] 28 (0, 0))) : W.cell? ⟨g, 0, none⟩ = some (.bool f0) := (blk_cell h 0).trans rfl
theorem IsS28.set_0 {w0 W : World} {g : Nat} {f0 f1 f2 f3 f4 f5 f6 f7 : Bool} {f8 : Int} {f9 f10 : ByteArray} {f11 f12 f13 f14 f15 : Int} {f16 f17 f18 f19 f20 f21 f22 f23 f24 f25 : Bool} (h : IsS28 w0 W g f0 f1 f2 f3 f4 f5 f6 f7 f8 f9 f10 f11 f12 f13 f14 f15 f16 f17 f18 f19 f20 f21 f22 f23 f24 f25) (x : Bool) : IsS28 w0 (W.setCell ⟨g, 0, none⟩ (.bool x)) g x f1 f2 f3 f4 f5 f6 f7 f8 f9 f10 f11 f12 f13 f14 f15 f16 f17 f18 f19 f20 f21 f22 f23 f24 f25 := by
 obtain ⟨hb, hg⟩ := h
 exact ⟨by simpa using blk_set hb 0 (.bool x), hg⟩
theorem cellS28_1 {W : World} {g : Nat} {f0 f1 f2 f3 f4 f5 f6 f7 : Bool} {f8 : Int} {f9 f10 : ByteArray} {f11 f12 f13 f14 f15 : Int} {f16 f17 f18 f19 f20 f21 f22 f23 f24 f25 : Bool} (h : W.heap[g]? = some (.cells #[.bool f0, .bool f1, .bool f2, .bool f3, .bool f4, .bool f5, .bool f6, .bool f7, .int .i64 f8, .string f9, .string f10, .int .i64 f11, .int .i64 f12, .int .i64 f13, .int .i64 f14, .int .i64 f15, .bool f16, .bool f17, .bool f18, .bool f19, .bool f20, .bool f21, .bool f22, .bool f23, .bool f24, .bool f25] 28 (0, 0))) : W.cell? ⟨g, 1, none⟩ = some (.bool f1) := (blk_cell h 1).trans rfl
theorem IsS28.set_1 {w0 W : World} {g : Nat} {f0 f1 f2 f3 f4 f5 f6 f7 : Bool} {f8 : Int} {f9 f10 : ByteArray} {f11 f12 f13 f14 f15 : Int} {f16 f17 f18 f19 f20 f21 f22 f23 f24 f25 : Bool} (h : IsS28 w0 W g f0 f1 f2 f3 f4 f5 f6 f7 f8 f9 f10 f11 f12 f13 f14 f15 f16 f17 f18 f19 f20 f21 f22 f23 f24 f25) (x : Bool) : IsS28 w0 (W.setCell ⟨g, 1, none⟩ (.bool x)) g f0 x f2 f3 f4 f5 f6 f7 f8 f9 f10 f11 f12 f13 f14 f15 f16 f17 f18 f19 f20 f21 f22 f23 f24 f25 := by
 obtain ⟨hb, hg⟩ := h
 exact ⟨by simpa using blk_set hb 1 (.bool x), hg⟩
theorem cellS28_2 {W : World} {g : Nat} {f0 f1 f2 f3 f4 f5 f6 f7 : Bool} {f8 : Int} {f9 f10 : ByteArray} {f11 f12 f13 f14 f15 : Int} {f16 f17 f18 f19 f20 f21 f22 f23 f24 f25 : Bool} (h : W.heap[g]? = some (.cells #[.bool f0, .bool f1, .bool f2, .bool f3, .bool f4, .bool f5, .bool f6, .bool f7, .int .i64 f8, .string f9, .string f10, .int .i64 f11, .int .i64 f12, .int .i64 f13, .int .i64 f14, .int .i64 f15, .bool f16, .bool f17, .bool f18, .bool f19, .bool f20, .bool f21, .bool f22, .bool f23, .bool f24, .bool f25] 28 (0, 0))) : W.cell? ⟨g, 2, none⟩ = some (.bool f2) := (blk_cell h 2).trans rfl
theorem IsS28.set_2 {w0 W : World} {g : Nat} {f0 f1 f2 f3 f4 f5 f6 f7 : Bool} {f8 : Int} {f9 f10 : ByteArray} {f11 f12 f13 f14 f15 : Int} {f16 f17 f18 f19 f20 f21 f22 f23 f24 f25 : Bool} (h : IsS28 w0 W g f0 f1 f2 f3 f4 f5 f6 f7 f8 f9 f10 f11 f12 f13 f14 f15 f16 f17 f18 f19 f20 f21 f22 f23 f24 f25) (x : Bool) : IsS28 w0 (W.setCell ⟨g, 2, none⟩ (.bool x)) g f0 f1 x f3 f4 f5 f6 f7 f8 f9 f10 f11 f12 f13 f14 f15 f16 f17 f18 f19 f20 f21 f22 f23 f24 f25 := by
 obtain ⟨hb, hg⟩ := h
 exact ⟨by simpa using blk_set hb 2 (.bool x), hg⟩
theorem cellS28_3 {W : World} {g : Nat} {f0 f1 f2 f3 f4 f5 f6 f7 : Bool} {f8 : Int} {f9 f10 : ByteArray} {f11 f12 f13 f14 f15 : Int} {f16 f17 f18 f19 f20 f21 f22 f23 f24 f25 : Bool} (h : W.heap[g]? = some (.cells #[.bool f0, .bool f1, .bool f2, .bool f3, .bool f4, .bool f5, .bool f6, .bool f7, .int .i64 f8, .string f9, .string f10, .int .i64 f11, .int .i64 f12, .int .i64 f13, .int .i64 f14, .int .i64 f15, .bool f16, .bool f17, .bool f18, .bool f19, .bool f20, .bool f21, .bool f22, .bool f23, .bool f24, .bool f25] 28 (0, 0))) : W.cell? ⟨g, 3, none⟩ = some (.bool f3) := (blk_cell h 3).trans rfl
theorem IsS28.set_3 {w0 W : World} {g : Nat} {f0 f1 f2 f3 f4 f5 f6 f7 : Bool} {f8 : Int} {f9 f10 : ByteArray} {f11 f12 f13 f14 f15 : Int} {f16 f17 f18 f19 f20 f21 f22 f23 f24 f25 : Bool} (h : IsS28 w0 W g f0 f1 f2 f3 f4 f5 f6 f7 f8 f9 f10 f11 f12 f13 f14 f15 f16 f17 f18 f19 f20 f21 f22 f23 f24 f25) (x : Bool) : IsS28 w0 (W.setCell ⟨g, 3, none⟩ (.bool x)) g f0 f1 f2 x f4 f5 f6 f7 f8 f9 f10 f11 f12 f13 f14 f15 f16 f17 f18 f19 f20 f21 f22 f23 f24 f25 := by
 obtain ⟨hb, hg⟩ := h
 exact ⟨by simpa using blk_set hb 3 (.bool x), hg⟩
theorem cellS28_4 {W : World} {g : Nat} {f0 f1 f2 f3 f4 f5 f6 f7 : Bool} {f8 : Int} {f9 f10 : ByteArray} {f11 f12 f13 f14 f15 : Int} {f16 f17 f18 f19 f20 f21 f22 f23 f24 f25 : Bool} (h : W.heap[g]? = some (.cells #[.bool f0, .bool f1, .bool f2, .bool f3, .bool f4, .bool f5, .bool f6, .bool f7, .int .i64 f8, .string f9, .string f10, .int .i64 f11, .int .i64 f12, .int .i64 f13, .int .i64 f14, .int .i64 f15, .bool f16, .bool f17, .bool f18, .bool f19, .bool f20, .bool f21, .bool f22, .bool f23, .bool f24, .bool f25] 28 (0, 0))) : W.cell? ⟨g, 4, none⟩ = some (.bool f4) := (blk_cell h 4).trans rfl
theorem IsS28.set_4 {w0 W : World} {g : Nat} {f0 f1 f2 f3 f4 f5 f6 f7 : Bool} {f8 : Int} {f9 f10 : ByteArray} {f11 f12 f13 f14 f15 : Int} {f16 f17 f18 f19 f20 f21 f22 f23 f24 f25 : Bool} (h : IsS28 w0 W g f0 f1 f2 f3 f4 f5 f6 f7 f8 f9 f10 f11 f12 f13 f14 f15 f16 f17 f18 f19 f20 f21 f22 f23 f24 f25) (x : Bool) : IsS28 w0 (W.setCell ⟨g, 4, none⟩ (.bool x)) g f0 f1 f2 f3 x f5 f6 f7 f8 f9 f10 f11 f12 f13 f14 f15 f16 f17 f18 f19 f20 f21 f22 f23 f24 f25 := by
 obtain ⟨hb, hg⟩ := h
 exact ⟨by simpa using blk_set hb 4 (.bool x), hg⟩
theorem cellS28_5 {W : World} {g : Nat} {f0 f1 f2 f3 f4 f5 f6 f7 : Bool} {f8 : Int} {f9 f10 : ByteArray} {f11 f12 f13 f14 f15 : Int} {f16 f17 f18 f19 f20 f21 f22 f23 f24 f25 : Bool} (h : W.heap[g]? = some (.cells #[.bool f0, .bool f1, .bool f2, .bool f3, .bool f4, .bool f5, .bool f6, .bool f7, .int .i64 f8, .string f9, .string f10, .int .i64 f11, .int .i64 f12, .int .i64 f13, .int .i64 f14, .int .i64 f15, .bool f16, .bool f17, .bool f18, .bool f19, .bool f20, .bool f21, .bool f22, .bool f23, .bool f24, .bool f25] 28 (0, 0))) : W.cell? ⟨g, 5, none⟩ = some (.bool f5) := (blk_cell h 5).trans rfl
theorem IsS28.set_5 {w0 W : World} {g : Nat} {f0 f1 f2 f3 f4 f5 f6 f7 : Bool} {f8 : Int} {f9 f10 : ByteArray} {f11 f12 f13 f14 f15 : Int} {f16 f17 f18 f19 f20 f21 f22 f23 f24 f25 : Bool} (h : IsS28 w0 W g f0 f1 f2 f3 f4 f5 f6 f7 f8 f9 f10 f11 f12 f13 f14 f15 f16 f17 f18 f19 f20 f21 f22 f23 f24 f25) (x : Bool) : IsS28 w0 (W.setCell ⟨g, 5, none⟩ (.bool x)) g f0 f1 f2 f3 f4 x f6 f7 f8 f9 f10 f11 f12 f13 f14 f15 f16 f17 f18 f19 f20 f21 f22 f23 f24 f25 := by
 obtain ⟨hb, hg⟩ := h
 exact ⟨by simpa using blk_set hb 5 (.bool x), hg⟩
theorem cellS28_6 {W : World} {g : Nat} {f0 f1 f2 f3 f4 f5 f6 f7 : Bool} {f8 : Int} {f9 f10 : ByteArray} {f11 f12 f13 f14 f15 : Int} {f16 f17 f18 f19 f20 f21 f22 f23 f24 f25 : Bool} (h : W.heap[g]? = some (.cells #[.bool f0, .bool f1, .bool f2, .bool f3, .bool f4, .bool f5, .bool f6, .bool f7, .int .i64 f8, .string f9, .string f10, .int .i64 f11, .int .i64 f12, .int .i64 f13, .int .i64 f14, .int .i64 f15, .bool f16, .bool f17, .bool f18, .bool f19, .bool f20, .bool f21, .bool f22, .bool f23, .bool f24, .bool f25] 28 (0, 0))) : W.cell? ⟨g, 6, none⟩ = some (.bool f6) := (blk_cell h 6).trans rfl
theorem IsS28.set_6 {w0 W : World} {g : Nat} {f0 f1 f2 f3 f4 f5 f6 f7 : Bool} {f8 : Int} {f9 f10 : ByteArray} {f11 f12 f13 f14 f15 : Int} {f16 f17 f18 f19 f20 f21 f22 f23 f24 f25 : Bool} (h : IsS28 w0 W g f0 f1 f2 f3 f4 f5 f6 f7 f8 f9 f10 f11 f12 f13 f14 f15 f16 f17 f18 f19 f20 f21 f22 f23 f24 f25) (x : Bool) : IsS28 w0 (W.setCell ⟨g, 6, none⟩ (.bool x)) g f0 f1 f2 f3 f4 f5 x f7 f8 f9 f10 f11 f12 f13 f14 f15 f16 f17 f18 f19 f20 f21 f22 f23 f24 f25 := by
 obtain ⟨hb, hg⟩ := h
 exact ⟨by simpa using blk_set hb 6 (.bool x), hg⟩
theorem cellS28_7 {W : World} {g : Nat} {f0 f1 f2 f3 f4 f5 f6 f7 : Bool} {f8 : Int} {f9 f10 : ByteArray} {f11 f12 f13 f14 f15 : Int} {f16 f17 f18 f19 f20 f21 f22 f23 f24 f25 : Bool} (h : W.heap[g]? = some (.cells #[.bool f0, .bool f1, .bool f2, .bool f3, .bool f4, .bool f5, .bool f6, .bool f7, .int .i64 f8, .string f9, .string f10, .int .i64 f11, .int .i64 f12, .int .i64 f13, .int .i64 f14, .int .i64 f15, .bool f16, .bool f17, .bool f18, .bool f19, .bool f20, .bool f21, .bool f22, .bool f23, .bool f24, .bool f25] 28 (0, 0))) : W.cell? ⟨g, 7, none⟩ = some (.bool f7) := (blk_cell h 7).trans rfl
theorem IsS28.set_7 {w0 W : World} {g : Nat} {f0 f1 f2 f3 f4 f5 f6 f7 : Bool} {f8 : Int} {f9 f10 : ByteArray} {f11 f12 f13 f14 f15 : Int} {f16 f17 f18 f19 f20 f21 f22 f23 f24 f25 : Bool} (h : IsS28 w0 W g f0 f1 f2 f3 f4 f5 f6 f7 f8 f9 f10 f11 f12 f13 f14 f15 f16 f17 f18 f19 f20 f21 f22 f23 f24 f25) (x : Bool) : IsS28 w0 (W.setCell ⟨g, 7, none⟩ (.bool x)) g f0 f1 f2 f3 f4 f5 f6 x f8 f9 f10 f11 f12 f13 f14 f15 f16 f17 f18 f19 f20 f21 f22 f23 f24 f25 := by
 obtain ⟨hb, hg⟩ := h
 exact ⟨by simpa using blk_set hb 7 (.bool x), hg⟩
theorem cellS28_18 {W : World} {g : Nat} {f0 f1 f2 f3 f4 f5 f6 f7 : Bool} {f8 : Int} {f9 f10 : ByteArray} {f11 f12 f13 f14 f15 : Int} {f16 f17 f18 f19 f20 f21 f22 f23 f24 f25 : Bool} (h : W.heap[g]? = some (.cells #[.bool f0, .bool f1, .bool f2, .bool f3, .bool f4, .bool f5, .bool f6, .bool f7, .int .i64 f8, .string f9, .string f10, .int .i64 f11, .int .i64 f12, .int .i64 f13, .int .i64 f14, .int .i64 f15, .bool f16, .bool f17, .bool f18, .bool f19, .bool f20, .bool f21, .bool f22, .bool f23, .bool f24, .bool f25] 28 (0, 0))) : W.cell? ⟨g, 18, none⟩ = some (.bool f18) := (blk_cell h 18).trans rfl
theorem IsS28.set_18 {w0 W : World} {g : Nat} {f0 f1 f2 f3 f4 f5 f6 f7 : Bool} {f8 : Int} {f9 f10 : ByteArray} {f11 f12 f13 f14 f15 : Int} {f16 f17 f18 f19 f20 f21 f22 f23 f24 f25 : Bool} (h : IsS28 w0 W g f0 f1 f2 f3 f4 f5 f6 f7 f8 f9 f10 f11 f12 f13 f14 f15 f16 f17 f18 f19 f20 f21 f22 f23 f24 f25) (x : Bool) : IsS28 w0 (W.setCell ⟨g, 18, none⟩ (.bool x)) g f0 f1 f2 f3 f4 f5 f6 f7 f8 f9 f10 f11 f12 f13 f14 f15 f16 f17 x f19 f20 f21 f22 f23 f24 f25 := by
 obtain ⟨hb, hg⟩ := h
 exact ⟨by simpa using blk_set hb 18 (.bool x), hg⟩
theorem cellS28_19 {W : World} {g : Nat} {f0 f1 f2 f3 f4 f5 f6 f7 : Bool} {f8 : Int} {f9 f10 : ByteArray} {f11 f12 f13 f14 f15 : Int} {f16 f17 f18 f19 f20 f21 f22 f23 f24 f25 : Bool} (h : W.heap[g]? = some (.cells #[.bool f0, .bool f1, .bool f2, .bool f3, .bool f4, .bool f5, .bool f6, .bool f7, .int .i64 f8, .string f9, .string f10, .int .i64 f11, .int .i64 f12, .int .i64 f13, .int .i64 f14, .int .i64 f15, .bool f16, .bool f17, .bool f18, .bool f19, .bool f20, .bool f21, .bool f22, .bool f23, .bool f24, .bool f25] 28 (0, 0))) : W.cell? ⟨g, 19, none⟩ = some (.bool f19) := (blk_cell h 19).trans rfl
theorem IsS28.set_19 {w0 W : World} {g : Nat} {f0 f1 f2 f3 f4 f5 f6 f7 : Bool} {f8 : Int} {f9 f10 : ByteArray} {f11 f12 f13 f14 f15 : Int} {f16 f17 f18 f19 f20 f21 f22 f23 f24 f25 : Bool} (h : IsS28 w0 W g f0 f1 f2 f3 f4 f5 f6 f7 f8 f9 f10 f11 f12 f13 f14 f15 f16 f17 f18 f19 f20 f21 f22 f23 f24 f25) (x : Bool) : IsS28 w0 (W.setCell ⟨g, 19, none⟩ (.bool x)) g f0 f1 f2 f3 f4 f5 f6 f7 f8 f9 f10 f11 f12 f13 f14 f15 f16 f17 f18 x f20 f21 f22 f23 f24 f25 := by
 obtain ⟨hb, hg⟩ := h
 exact ⟨by simpa using blk_set hb 19 (.bool x), hg⟩
theorem cellS28_20 {W : World} {g : Nat} {f0 f1 f2 f3 f4 f5 f6 f7 : Bool} {f8 : Int} {f9 f10 : ByteArray} {f11 f12 f13 f14 f15 : Int} {f16 f17 f18 f19 f20 f21 f22 f23 f24 f25 : Bool} (h : W.heap[g]? = some (.cells #[.bool f0, .bool f1, .bool f2, .bool f3, .bool f4, .bool f5, .bool f6, .bool f7, .int .i64 f8, .string f9, .string f10, .int .i64 f11, .int .i64 f12, .int .i64 f13, .int .i64 f14, .int .i64 f15, .bool f16, .bool f17, .bool f18, .bool f19, .bool f20, .bool f21, .bool f22, .bool f23, .bool f24, .bool f25] 28 (0, 0))) : W.cell? ⟨g, 20, none⟩ = some (.bool f20) := (blk_cell h 20).trans rfl
theorem IsS28.set_20 {w0 W : World} {g : Nat} {f0 f1 f2 f3 f4 f5 f6 f7 : Bool} {f8 : Int} {f9 f10 : ByteArray} {f11 f12 f13 f14 f15 : Int} {f16 f17 f18 f19 f20 f21 f22 f23 f24 f25 : Bool} (h : IsS28 w0 W g f0 f1 f2 f3 f4 f5 f6 f7 f8 f9 f10 f11 f12 f13 f14 f15 f16 f17 f18 f19 f20 f21 f22 f23 f24 f25) (x : Bool) : IsS28 w0 (W.setCell ⟨g, 20, none⟩ (.bool x)) g f0 f1 f2 f3 f4 f5 f6 f7 f8 f9 f10 f11 f12 f13 f14 f15 f16 f17 f18 f19 x f21 f22 f23 f24 f25 := by
 obtain ⟨hb, hg⟩ := h
 exact ⟨by simpa using blk_set hb 20 (.bool x), hg⟩
theorem cellS28_21 {W : World} {g : Nat} {f0 f1 f2 f3 f4 f5 f6 f7 : Bool} {f8 : Int} {f9 f10 : ByteArray} {f11 f12 f13 f14 f15 : Int} {f16 f17 f18 f19 f20 f21 f22 f23 f24 f25 : Bool} (h : W.heap[g]? = some (.cells #[.bool f0, .bool f1, .bool f2, .bool f3, .bool f4, .bool f5, .bool f6, .bool f7, .int .i64 f8, .string f9, .string f10, .int .i64 f11, .int .i64 f12, .int .i64 f13, .int .i64 f14, .int .i64 f15, .bool f16, .bool f17, .bool f18, .bool f19, .bool f20, .bool f21, .bool f22, .bool f23, .bool f24, .bool f25] 28 (0, 0))) : W.cell? ⟨g, 21, none⟩ = some (.bool f21) := (blk_cell h 21).trans rfl
theorem IsS28.set_21 {w0 W : World} {g : Nat} {f0 f1 f2 f3 f4 f5 f6 f7 : Bool} {f8 : Int} {f9 f10 : ByteArray} {f11 f12 f13 f14 f15 : Int} {f16 f17 f18 f19 f20 f21 f22 f23 f24 f25 : Bool} (h : IsS28 w0 W g f0 f1 f2 f3 f4 f5 f6 f7 f8 f9 f10 f11 f12 f13 f14 f15 f16 f17 f18 f19 f20 f21 f22 f23 f24 f25) (x : Bool) : IsS28 w0 (W.setCell ⟨g, 21, none⟩ (.bool x)) g f0 f1 f2 f3 f4 f5 f6 f7 f8 f9 f10 f11 f12 f13 f14 f15 f16 f17 f18 f19 f20 x f22 f23 f24 f25 := by
 obtain ⟨hb, hg⟩ := h
 exact ⟨by simpa using blk_set hb 21 (.bool x), hg⟩
theorem cellS28_22 {W : World} {g : Nat} {f0 f1 f2 f3 f4 f5 f6 f7 : Bool} {f8 : Int} {f9 f10 : ByteArray} {f11 f12 f13 f14 f15 : Int} {f16 f17 f18 f19 f20 f21 f22 f23 f24 f25 : Bool} (h : W.heap[g]? = some (.cells #[.bool f0, .bool f1, .bool f2, .bool f3, .bool f4, .bool f5, .bool f6, .bool f7, .int .i64 f8, .string f9, .string f10, .int .i64 f11, .int .i64 f12, .int .i64 f13, .int .i64 f14, .int .i64 f15, .bool f16, .bool f17, .bool f18, .bool f19, .bool f20, .bool f21, .bool f22, .bool f23, .bool f24, .bool f25] 28 (0, 0))) : W.cell? ⟨g, 22, none⟩ = some (.bool f22) := (blk_cell h 22).trans rfl
theorem IsS28.set_22 {w0 W : World} {g : Nat} {f0 f1 f2 f3 f4 f5 f6 f7 : Bool} {f8 : Int} {f9 f10 : ByteArray} {f11 f12 f13 f14 f15 : Int} {f16 f17 f18 f19 f20 f21 f22 f23 f24 f25 : Bool} (h : IsS28 w0 W g f0 f1 f2 f3 f4 f5 f6 f7 f8 f9 f10 f11 f12 f13 f14 f15 f16 f17 f18 f19 f20 f21 f22 f23 f24 f25) (x : Bool) : IsS28 w0 (W.setCell ⟨g, 22, none⟩ (.bool x)) g f0 f1 f2 f3 f4 f5 f6 f7 f8 f9 f10 f11 f12 f13 f14 f15 f16 f17 f18 f19 f20 f21 x f23 f24 f25 := by
 obtain ⟨hb, hg⟩ := h
 exact ⟨by simpa using blk_set hb 22 (.bool x), hg⟩
theorem cellS28_23 {W : World} {g : Nat} {f0 f1 f2 f3 f4 f5 f6 f7 : Bool} {f8 : Int} {f9 f10 : ByteArray} {f11 f12 f13 f14 f15 : Int} {f16 f17 f18 f19 f20 f21 f22 f23 f24 f25 : Bool} (h : W.heap[g]? = some (.cells #[.bool f0, .bool f1, .bool f2, .bool f3, .bool f4, .bool f5, .bool f6, .bool f7, .int .i64 f8, .string f9, .string f10, .int .i64 f11, .int .i64 f12, .int .i64 f13, .int .i64 f14, .int .i64 f15, .bool f16, .bool f17, .bool f18, .bool f19, .bool f20, .bool f21, .bool f22, .bool f23, .bool f24, .bool f25] 28 (0, 0))) : W.cell? ⟨g, 23, none⟩ = some (.bool f23) := (blk_cell h 23).trans rfl
theorem IsS28.set_23 {w0 W : World} {g : Nat} {f0 f1 f2 f3 f4 f5 f6 f7 : Bool} {f8 : Int} {f9 f10 : ByteArray} {f11 f12 f13 f14 f15 : Int} {f16 f17 f18 f19 f20 f21 f22 f23 f24 f25 : Bool} (h : IsS28 w0 W g f0 f1 f2 f3 f4 f5 f6 f7 f8 f9 f10 f11 f12 f13 f14 f15 f16 f17 f18 f19 f20 f21 f22 f23 f24 f25) (x : Bool) : IsS28 w0 (W.setCell ⟨g, 23, none⟩ (.bool x)) g f0 f1 f2 f3 f4 f5 f6 f7 f8 f9 f10 f11 f12 f13 f14 f15 f16 f17 f18 f19 f20 f21 f22 x f24 f25 := by
 obtain ⟨hb, hg⟩ := h
 exact ⟨by simpa using blk_set hb 23 (.bool x), hg⟩
theorem cellS28_24 {W : World} {g : Nat} {f0 f1 f2 f3 f4 f5 f6 f7 : Bool} {f8 : Int} {f9 f10 : ByteArray} {f11 f12 f13 f14 f15 : Int} {f16 f17 f18 f19 f20 f21 f22 f23 f24 f25 : Bool} (h : W.heap[g]? = some (.cells #[.bool f0, .bool f1, .bool f2, .bool f3, .bool f4, .bool f5, .bool f6, .bool f7, .int .i64 f8, .string f9, .string f10, .int .i64 f11, .int .i64 f12, .int .i64 f13, .int .i64 f14, .int .i64 f15, .bool f16, .bool f17, .bool f18, .bool f19, .bool f20, .bool f21, .bool f22, .bool f23, .bool f24, .bool f25] 28 (0, 0))) : W.cell? ⟨g, 24, none⟩ = some (.bool f24) := (blk_cell h 24).trans rfl
theorem IsS28.set_24 {w0 W : World} {g : Nat} {f0 f1 f2 f3 f4 f5 f6 f7 : Bool} {f8 : Int} {f9 f10 : ByteArray} {f11 f12 f13 f14 f15 : Int} {f16 f17 f18 f19 f20 f21 f22 f23 f24 f25 : Bool} (h : IsS28 w0 W g f0 f1 f2 f3 f4 f5 f6 f7 f8 f9 f10 f11 f12 f13 f14 f15 f16 f17 f18 f19 f20 f21 f22 f23 f24 f25) (x : Bool) : IsS28 w0 (W.setCell ⟨g, 24, none⟩ (.bool x)) g f0 f1 f2 f3 f4 f5 f6 f7 f8 f9 f10 f11 f12 f13 f14 f15 f16 f17 f18 f19 f20 f21 f22 f23 x f25 := by
 obtain ⟨hb, hg⟩ := h
 exact ⟨by simpa using blk_set hb 24 (.bool x), hg⟩
theorem cellS28_25 {W : World} {g : Nat} {f0 f1 f2 f3 f4 f5 f6 f7 : Bool} {f8 : Int} {f9 f10 : ByteArray} {f11 f12 f13 f14 f15 : Int} {f16 f17 f18 f19 f20 f21 f22 f23 f24 f25 : Bool} (h : W.heap[g]? = some (.cells #[.bool f0, .bool f1, .bool f2, .bool f3, .bool f4, .bool f5, .bool f6, .bool f7, .int .i64 f8, .string f9, .string f10, .int .i64 f11, .int .i64 f12, .int .i64 f13, .int .i64 f14, .int .i64 f15, .bool f16, .bool f17, .bool f18, .bool f19, .bool f20, .bool f21, .bool f22, .bool f23, .bool f24, .bool f25] 28 (0, 0))) : W.cell? ⟨g, 25, none⟩ = some (.bool f25) := (blk_cell h 25).trans rfl
theorem IsS28.set_25 {w0 W : World} {g : Nat} {f0 f1 f2 f3 f4 f5 f6 f7 : Bool} {f8 : Int} {f9 f10 : ByteArray} {f11 f12 f13 f14 f15 : Int} {f16 f17 f18 f19 f20 f21 f22 f23 f24 f25 : Bool} (h : IsS28 w0 W g f0 f1 f2 f3 f4 f5 f6 f7 f8 f9 f10 f11 f12 f13 f14 f15 f16 f17 f18 f19 f20 f21 f22 f23 f24 f25) (x : Bool) : IsS28 w0 (W.setCell ⟨g, 25, none⟩ (.bool x)) g f0 f1 f2 f3 f4 f5 f6 f7 f8 f9 f10 f11 f12 f13 f14 f15 f16 f17 f18 f19 f20 f21 f22 f23 f24 x := by
 obtain ⟨hb, hg⟩ := h
 exact ⟨by simpa using blk_set hb 25 (.bool x), hg⟩
theorem IsS28.new (w0 W : World) (f0 f1 f2 f3 f4 f5 f6 f7 : Bool) (f8 : Int) (f9 f10 : ByteArray) (f11 f12 f13 f14 f15 : Int) (f16 f17 f18 f19 f20 f21 f22 f23 f24 f25 : Bool) (hB : Below w0.heap.size w0 W) : IsS28 w0 (W.alloc (.cells #[.bool f0, .bool f1, .bool f2, .bool f3, .bool f4, .bool f5, .bool f6, .bool f7, .int .i64 f8, .string f9, .string f10, .int .i64 f11, .int .i64 f12, .int .i64 f13, .int .i64 f14, .int .i64 f15, .bool f16, .bool f17, .bool f18, .bool f19, .bool f20, .bool f21, .bool f22, .bool f23, .bool f24, .bool f25] 28)) W.heap.size f0 f1 f2 f3 f4 f5 f6 f7 f8 f9 f10 f11 f12 f13 f14 f15 f16 f17 f18 f19 f20 f21 f22 f23 f24 f25 := ⟨by simpa using heap_alloc_new W _, hB.size⟩
def salvorref22_word.f (s0_0 s0_1 s0_2 s0_3 s0_4 s0_5 s0_6 s0_7 : Bool) (s0_8 : Int) (s0_9 s0_10 : ByteArray) (s0_11 s0_12 s0_13 s0_14 s0_15 : Int) (s0_16 s0_17 s0_18 s0_19 s0_20 s0_21 s0_22 s0_23 s0_24 s0_25 : Bool) (a1 : ByteArray) : Option (Bool × Bool × Bool × Bool × Bool × Bool × Bool × Bool × Bool × Int × ByteArray × ByteArray × Int × Int × Int × Int × Int × Bool × Bool × Bool × Bool × Bool × Bool × Bool × Bool × Bool × Bool) := if a1.toList = ([115, 119, 97, 98] : List UInt8) then (some (true, true, s0_1, s0_2, s0_3, s0_4, s0_5, s0_6, s0_7, s0_8, s0_9, s0_10, s0_11, s0_12, s0_13, s0_14, s0_15, s0_16, s0_17, s0_18, s0_19, s0_20, s0_21, s0_22, s0_23, s0_24, s0_25)) else (if a1.toList = ([98, 108, 111, 99, 107] : List UInt8) then (some (true, s0_0, true, s0_2, s0_3, s0_4, s0_5, s0_6, s0_7, s0_8, s0_9, s0_10, s0_11, s0_12, s0_13, s0_14, s0_15, s0_16, s0_17, s0_18, s0_19, s0_20, s0_21, s0_22, s0_23, s0_24, s0_25)) else (if a1.toList = ([117, 110, 98, 108, 111, 99, 107] : List UInt8) then (some (true, s0_0, s0_1, true, s0_3, s0_4, s0_5, s0_6, s0_7, s0_8, s0_9, s0_10, s0_11, s0_12, s0_13, s0_14, s0_15, s0_16, s0_17, s0_18, s0_19, s0_20, s0_21, s0_22, s0_23, s0_24, s0_25)) else (if a1.toList = ([108, 99, 97, 115, 101] : List UInt8) then (some (true, s0_0, s0_1, s0_2, true, s0_4, s0_5, s0_6, s0_7, s0_8, s0_9, s0_10, s0_11, s0_12, s0_13, s0_14, s0_15, s0_16, s0_17, s0_18, s0_19, s0_20, s0_21, s0_22, s0_23, s0_24, s0_25)) else (if a1.toList = ([117, 99, 97, 115, 101] : List UInt8) then (some (true, s0_0, s0_1, s0_2, s0_3, true, s0_5, s0_6, s0_7, s0_8, s0_9, s0_10, s0_11, s0_12, s0_13, s0_14, s0_15, s0_16, s0_17, s0_18, s0_19, s0_20, s0_21, s0_22, s0_23, s0_24, s0_25)) else (if a1.toList = ([97, 115, 99, 105, 105] : List UInt8) then (some (true, s0_0, s0_1, s0_2, s0_3, s0_4, true, s0_6, s0_7, s0_8, s0_9, s0_10, s0_11, s0_12, s0_13, s0_14, s0_15, s0_16, s0_17, s0_18, s0_19, s0_20, s0_21, s0_22, s0_23, s0_24, s0_25)) else (if a1.toList = ([101, 98, 99, 100, 105, 99] : List UInt8) then (some (true, s0_0, s0_1, s0_2, s0_3, s0_4, s0_5, true, s0_7, s0_8, s0_9, s0_10, s0_11, s0_12, s0_13, s0_14, s0_15, s0_16, s0_17, s0_18, s0_19, s0_20, s0_21, s0_22, s0_23, s0_24, s0_25)) else (if a1.toList = ([105, 98, 109] : List UInt8) then (some (true, s0_0, s0_1, s0_2, s0_3, s0_4, s0_5, s0_6, true, s0_8, s0_9, s0_10, s0_11, s0_12, s0_13, s0_14, s0_15, s0_16, s0_17, s0_18, s0_19, s0_20, s0_21, s0_22, s0_23, s0_24, s0_25)) else (if a1.toList = ([115, 121, 110, 99] : List UInt8) then (some (true, s0_0, s0_1, s0_2, s0_3, s0_4, s0_5, s0_6, s0_7, s0_8, s0_9, s0_10, s0_11, s0_12, s0_13, s0_14, s0_15, s0_16, s0_17, s0_18, true, s0_20, s0_21, s0_22, s0_23, s0_24, s0_25)) else (if a1.toList = ([110, 111, 101, 114, 114, 111, 114] : List UInt8) then (some (true, s0_0, s0_1, s0_2, s0_3, s0_4, s0_5, s0_6, s0_7, s0_8, s0_9, s0_10, s0_11, s0_12, s0_13, s0_14, s0_15, s0_16, s0_17, s0_18, s0_19, true, s0_21, s0_22, s0_23, s0_24, s0_25)) else (if a1.toList = ([110, 111, 116, 114, 117, 110, 99] : List UInt8) then (some (true, s0_0, s0_1, s0_2, s0_3, s0_4, s0_5, s0_6, s0_7, s0_8, s0_9, s0_10, s0_11, s0_12, s0_13, s0_14, s0_15, s0_16, s0_17, s0_18, s0_19, s0_20, true, s0_22, s0_23, s0_24, s0_25)) else (if a1.toList = ([115, 112, 97, 114, 115, 101] : List UInt8) then (some (true, s0_0, s0_1, s0_2, s0_3, s0_4, s0_5, s0_6, s0_7, s0_8, s0_9, s0_10, s0_11, s0_12, s0_13, s0_14, s0_15, s0_16, s0_17, s0_18, s0_19, s0_20, s0_21, true, s0_23, s0_24, s0_25)) else (if a1.toList = ([102, 115, 121, 110, 99] : List UInt8) then (some (true, s0_0, s0_1, s0_2, s0_3, s0_4, s0_5, s0_6, s0_7, s0_8, s0_9, s0_10, s0_11, s0_12, s0_13, s0_14, s0_15, s0_16, s0_17, s0_18, s0_19, s0_20, s0_21, s0_22, true, s0_24, s0_25)) else (if a1.toList = ([101, 120, 99, 108] : List UInt8) then (some (true, s0_0, s0_1, s0_2, s0_3, s0_4, s0_5, s0_6, s0_7, s0_8, s0_9, s0_10, s0_11, s0_12, s0_13, s0_14, s0_15, s0_16, s0_17, s0_18, s0_19, s0_20, s0_21, s0_22, s0_23, true, s0_25)) else (if a1.toList = ([110, 111, 99, 114, 101, 97, 116] : List UInt8) then (some (true, s0_0, s0_1, s0_2, s0_3, s0_4, s0_5, s0_6, s0_7, s0_8, s0_9, s0_10, s0_11, s0_12, s0_13, s0_14, s0_15, s0_16, s0_17, s0_18, s0_19, s0_20, s0_21, s0_22, s0_23, s0_24, true)) else (some (false, s0_0, s0_1, s0_2, s0_3, s0_4, s0_5, s0_6, s0_7, s0_8, s0_9, s0_10, s0_11, s0_12, s0_13, s0_14, s0_15, s0_16, s0_17, s0_18, s0_19, s0_20, s0_21, s0_22, s0_23, s0_24, s0_25))))))))))))))))
set_option maxHeartbeats 8000000 in
set_option maxRecDepth 100000 in
theorem salvorref22_word.calls (g : Nat) (s0_0 s0_1 s0_2 s0_3 s0_4 s0_5 s0_6 s0_7 : Bool) (s0_8 : Int) (s0_9 s0_10 : ByteArray) (s0_11 s0_12 s0_13 s0_14 s0_15 : Int) (s0_16 s0_17 s0_18 s0_19 s0_20 s0_21 s0_22 s0_23 s0_24 s0_25 : Bool) (a1 : ByteArray) (r1 r2 r3 r4 r5 r6 r7 r8 r9 : Bool) (r10 : Int) (r11 r12 : ByteArray) (r13 r14 r15 r16 r17 : Int) (r18 r19 r20 r21 r22 r23 r24 r25 r26 r27 : Bool) (w0 w : World) (hI : IsS28 w0 w g s0_0 s0_1 s0_2 s0_3 s0_4 s0_5 s0_6 s0_7 s0_8 s0_9 s0_10 s0_11 s0_12 s0_13 s0_14 s0_15 s0_16 s0_17 s0_18 s0_19 s0_20 s0_21 s0_22 s0_23 s0_24 s0_25) (hB : Below w0.heap.size w0 w) (h : salvorref22_word.f s0_0 s0_1 s0_2 s0_3 s0_4 s0_5 s0_6 s0_7 s0_8 s0_9 s0_10 s0_11 s0_12 s0_13 s0_14 s0_15 s0_16 s0_17 s0_18 s0_19 s0_20 s0_21 s0_22 s0_23 s0_24 s0_25 a1 = some (r1, r2, r3, r4, r5, r6, r7, r8, r9, r10, r11, r12, r13, r14, r15, r16, r17, r18, r19, r20, r21, r22, r23, r24, r25, r26, r27)) :
  Calls Tryz.prog 48 #[.pointer (some ⟨g, 0, none⟩), .string a1] w fun e w' => e = .returned (.bool r1) ∧ IsS28 w0 w' g r2 r3 r4 r5 r6 r7 r8 r9 r10 r11 r12 r13 r14 r15 r16 r17 r18 r19 r20 r21 r22 r23 r24 r25 r26 r27 ∧ Below w0.heap.size w0 w' ∧ KeepBut w w' g none := by
 have HI0 := Aside0.mk hI
 have HK := Aside0.mk (KeepBut.refl w g none)
 have HL := Aside0.mk hB.size
 clear hI
 have HW0 := Aside0.mk hB.size
 have HB := Aside0.mk hB
 clear hB
 have H : (if a1.toList = ([115, 119, 97, 98] : List UInt8) then (some (true, true, s0_1, s0_2, s0_3, s0_4, s0_5, s0_6, s0_7, s0_8, s0_9, s0_10, s0_11, s0_12, s0_13, s0_14, s0_15, s0_16, s0_17, s0_18, s0_19, s0_20, s0_21, s0_22, s0_23, s0_24, s0_25)) else (if a1.toList = ([98, 108, 111, 99, 107] : List UInt8) then (some (true, s0_0, true, s0_2, s0_3, s0_4, s0_5, s0_6, s0_7, s0_8, s0_9, s0_10, s0_11, s0_12, s0_13, s0_14, s0_15, s0_16, s0_17, s0_18, s0_19, s0_20, s0_21, s0_22, s0_23, s0_24, s0_25)) else (if a1.toList = ([117, 110, 98, 108, 111, 99, 107] : List UInt8) then (some (true, s0_0, s0_1, true, s0_3, s0_4, s0_5, s0_6, s0_7, s0_8, s0_9, s0_10, s0_11, s0_12, s0_13, s0_14, s0_15, s0_16, s0_17, s0_18, s0_19, s0_20, s0_21, s0_22, s0_23, s0_24, s0_25)) else (if a1.toList = ([108, 99, 97, 115, 101] : List UInt8) then (some (true, s0_0, s0_1, s0_2, true, s0_4, s0_5, s0_6, s0_7, s0_8, s0_9, s0_10, s0_11, s0_12, s0_13, s0_14, s0_15, s0_16, s0_17, s0_18, s0_19, s0_20, s0_21, s0_22, s0_23, s0_24, s0_25)) else (if a1.toList = ([117, 99, 97, 115, 101] : List UInt8) then (some (true, s0_0, s0_1, s0_2, s0_3, true, s0_5, s0_6, s0_7, s0_8, s0_9, s0_10, s0_11, s0_12, s0_13, s0_14, s0_15, s0_16, s0_17, s0_18, s0_19, s0_20, s0_21, s0_22, s0_23, s0_24, s0_25)) else (if a1.toList = ([97, 115, 99, 105, 105] : List UInt8) then (some (true, s0_0, s0_1, s0_2, s0_3, s0_4, true, s0_6, s0_7, s0_8, s0_9, s0_10, s0_11, s0_12, s0_13, s0_14, s0_15, s0_16, s0_17, s0_18, s0_19, s0_20, s0_21, s0_22, s0_23, s0_24, s0_25)) else (if a1.toList = ([101, 98, 99, 100, 105, 99] : List UInt8) then (some (true, s0_0, s0_1, s0_2, s0_3, s0_4, s0_5, true, s0_7, s0_8, s0_9, s0_10, s0_11, s0_12, s0_13, s0_14, s0_15, s0_16, s0_17, s0_18, s0_19, s0_20, s0_21, s0_22, s0_23, s0_24, s0_25)) else (if a1.toList = ([105, 98, 109] : List UInt8) then (some (true, s0_0, s0_1, s0_2, s0_3, s0_4, s0_5, s0_6, true, s0_8, s0_9, s0_10, s0_11, s0_12, s0_13, s0_14, s0_15, s0_16, s0_17, s0_18, s0_19, s0_20, s0_21, s0_22, s0_23, s0_24, s0_25)) else (if a1.toList = ([115, 121, 110, 99] : List UInt8) then (some (true, s0_0, s0_1, s0_2, s0_3, s0_4, s0_5, s0_6, s0_7, s0_8, s0_9, s0_10, s0_11, s0_12, s0_13, s0_14, s0_15, s0_16, s0_17, s0_18, true, s0_20, s0_21, s0_22, s0_23, s0_24, s0_25)) else (if a1.toList = ([110, 111, 101, 114, 114, 111, 114] : List UInt8) then (some (true, s0_0, s0_1, s0_2, s0_3, s0_4, s0_5, s0_6, s0_7, s0_8, s0_9, s0_10, s0_11, s0_12, s0_13, s0_14, s0_15, s0_16, s0_17, s0_18, s0_19, true, s0_21, s0_22, s0_23, s0_24, s0_25)) else (if a1.toList = ([110, 111, 116, 114, 117, 110, 99] : List UInt8) then (some (true, s0_0, s0_1, s0_2, s0_3, s0_4, s0_5, s0_6, s0_7, s0_8, s0_9, s0_10, s0_11, s0_12, s0_13, s0_14, s0_15, s0_16, s0_17, s0_18, s0_19, s0_20, true, s0_22, s0_23, s0_24, s0_25)) else (if a1.toList = ([115, 112, 97, 114, 115, 101] : List UInt8) then (some (true, s0_0, s0_1, s0_2, s0_3, s0_4, s0_5, s0_6, s0_7, s0_8, s0_9, s0_10, s0_11, s0_12, s0_13, s0_14, s0_15, s0_16, s0_17, s0_18, s0_19, s0_20, s0_21, true, s0_23, s0_24, s0_25)) else (if a1.toList = ([102, 115, 121, 110, 99] : List UInt8) then (some (true, s0_0, s0_1, s0_2, s0_3, s0_4, s0_5, s0_6, s0_7, s0_8, s0_9, s0_10, s0_11, s0_12, s0_13, s0_14, s0_15, s0_16, s0_17, s0_18, s0_19, s0_20, s0_21, s0_22, true, s0_24, s0_25)) else (if a1.toList = ([101, 120, 99, 108] : List UInt8) then (some (true, s0_0, s0_1, s0_2, s0_3, s0_4, s0_5, s0_6, s0_7, s0_8, s0_9, s0_10, s0_11, s0_12, s0_13, s0_14, s0_15, s0_16, s0_17, s0_18, s0_19, s0_20, s0_21, s0_22, s0_23, true, s0_25)) else (if a1.toList = ([110, 111, 99, 114, 101, 97, 116] : List UInt8) then (some (true, s0_0, s0_1, s0_2, s0_3, s0_4, s0_5, s0_6, s0_7, s0_8, s0_9, s0_10, s0_11, s0_12, s0_13, s0_14, s0_15, s0_16, s0_17, s0_18, s0_19, s0_20, s0_21, s0_22, s0_23, s0_24, true)) else (some (false, s0_0, s0_1, s0_2, s0_3, s0_4, s0_5, s0_6, s0_7, s0_8, s0_9, s0_10, s0_11, s0_12, s0_13, s0_14, s0_15, s0_16, s0_17, s0_18, s0_19, s0_20, s0_21, s0_22, s0_23, s0_24, s0_25))))))))))))))))) = some (r1, r2, r3, r4, r5, r6, r7, r8, r9, r10, r11, r12, r13, r14, r15, r16, r17, r18, r19, r20, r21, r22, r23, r24, r25, r26, r27) := h
 clear h
 by_cases c3 : a1.toList = ([115, 119, 97, 98] : List UInt8)
 ·rw [if_pos c3] at H
  have c3b0 : (a1.toList == ([115, 119, 97, 98] : List UInt8)) = true := beq_iff_eq.mpr c3
  have c3b1 : (a1.toList != ([115, 119, 97, 98] : List UInt8)) = false := bne_eq_false_iff_eq.mpr c3
  clear c3
  simp only [Option.some.injEq, Prod.mk.injEq] at H
  obtain ⟨rfl, rfl, rfl, rfl, rfl, rfl, rfl, rfl, rfl, rfl, rfl, rfl, rfl, rfl, rfl, rfl, rfl, rfl, rfl, rfl, rfl, rfl, rfl, rfl, rfl, rfl, rfl⟩ := H
  obtain ⟨HGz4, hgz4⟩ := HI0.out
  have hcz4_0 := cellS28_0 HGz4
  have hfz4_0 := blk_frozen HGz4 0
  clear HGz4 hgz4
  go_enter Tryz.func48, Tryz.ntmps48
  go_wp2
  go_ret
  exact ⟨by first | rfl | (simp [errW_none, errW_some] <;> rfl) | (simp [*, errW_none, errW_some] <;> rfl), by repeat (first | (with_reducible first | exact HI0.out | apply IsS28.alloc | apply IsS28.drewN | apply IsS28.drew | apply IsS28.set_0) | exact HI0.out), by repeat (first | (with_reducible first | exact HB.out | apply below_alloc | apply pw_below_drewN | apply below_drew1 | refine below_set ?_ (IsS28.ge HI0.out)) | exact HB.out), by repeat (first | (with_reducible first | exact HK.out | apply KeepBut.set_ | apply keep_drewN | apply keep_drew | apply keep_alloc) | exact HK.out)⟩
 ·rw [if_neg c3] at H
  have c3b0 : (a1.toList == ([115, 119, 97, 98] : List UInt8)) = false := beq_eq_false_iff_ne.mpr c3
  have c3b1 : (a1.toList != ([115, 119, 97, 98] : List UInt8)) = true := bne_iff_ne.mpr c3
  by_cases c5 : a1.toList = ([98, 108, 111, 99, 107] : List UInt8)
  ·rw [if_pos c5] at H
   have c5b0 : (a1.toList == ([98, 108, 111, 99, 107] : List UInt8)) = true := beq_iff_eq.mpr c5
   have c5b1 : (a1.toList != ([98, 108, 111, 99, 107] : List UInt8)) = false := bne_eq_false_iff_eq.mpr c5
   clear c5
   simp only [Option.some.injEq, Prod.mk.injEq] at H
   obtain ⟨rfl, rfl, rfl, rfl, rfl, rfl, rfl, rfl, rfl, rfl, rfl, rfl, rfl, rfl, rfl, rfl, rfl, rfl, rfl, rfl, rfl, rfl, rfl, rfl, rfl, rfl, rfl⟩ := H
   obtain ⟨HGz6, hgz6⟩ := HI0.out
   have hcz6_1 := cellS28_1 HGz6
   have hfz6_1 := blk_frozen HGz6 1
   clear HGz6 hgz6
   go_enter Tryz.func48, Tryz.ntmps48
   go_wp2
   go_ret
   exact ⟨by first | rfl | (simp [errW_none, errW_some] <;> rfl) | (simp [*, errW_none, errW_some] <;> rfl), by repeat (first | (with_reducible first | exact HI0.out | apply IsS28.alloc | apply IsS28.drewN | apply IsS28.drew | apply IsS28.set_1) | exact HI0.out), by repeat (first | (with_reducible first | exact HB.out | apply below_alloc | apply pw_below_drewN | apply below_drew1 | refine below_set ?_ (IsS28.ge HI0.out)) | exact HB.out), by repeat (first | (with_reducible first | exact HK.out | apply KeepBut.set_ | apply keep_drewN | apply keep_drew | apply keep_alloc) | exact HK.out)⟩
  ·rw [if_neg c5] at H
   have c5b0 : (a1.toList == ([98, 108, 111, 99, 107] : List UInt8)) = false := beq_eq_false_iff_ne.mpr c5
   have c5b1 : (a1.toList != ([98, 108, 111, 99, 107] : List UInt8)) = true := bne_iff_ne.mpr c5
   by_cases c7 : a1.toList = ([117, 110, 98, 108, 111, 99, 107] : List UInt8)
   ·rw [if_pos c7] at H
    have c7b0 : (a1.toList == ([117, 110, 98, 108, 111, 99, 107] : List UInt8)) = true := beq_iff_eq.mpr c7
    have c7b1 : (a1.toList != ([117, 110, 98, 108, 111, 99, 107] : List UInt8)) = false := bne_eq_false_iff_eq.mpr c7
    clear c7
    simp only [Option.some.injEq, Prod.mk.injEq] at H
    obtain ⟨rfl, rfl, rfl, rfl, rfl, rfl, rfl, rfl, rfl, rfl, rfl, rfl, rfl, rfl, rfl, rfl, rfl, rfl, rfl, rfl, rfl, rfl, rfl, rfl, rfl, rfl, rfl⟩ := H
    obtain ⟨HGz8, hgz8⟩ := HI0.out
    have hcz8_2 := cellS28_2 HGz8
    have hfz8_2 := blk_frozen HGz8 2
    clear HGz8 hgz8
    go_enter Tryz.func48, Tryz.ntmps48
    go_wp2
    go_ret
    exact ⟨by first | rfl | (simp [errW_none, errW_some] <;> rfl) | (simp [*, errW_none, errW_some] <;> rfl), by repeat (first | (with_reducible first | exact HI0.out | apply IsS28.alloc | apply IsS28.drewN | apply IsS28.drew | apply IsS28.set_2) | exact HI0.out), by repeat (first | (with_reducible first | exact HB.out | apply below_alloc | apply pw_below_drewN | apply below_drew1 | refine below_set ?_ (IsS28.ge HI0.out)) | exact HB.out), by repeat (first | (with_reducible first | exact HK.out | apply KeepBut.set_ | apply keep_drewN | apply keep_drew | apply keep_alloc) | exact HK.out)⟩
   ·rw [if_neg c7] at H
    have c7b0 : (a1.toList == ([117, 110, 98, 108, 111, 99, 107] : List UInt8)) = false := beq_eq_false_iff_ne.mpr c7
    have c7b1 : (a1.toList != ([117, 110, 98, 108, 111, 99, 107] : List UInt8)) = true := bne_iff_ne.mpr c7
    by_cases c9 : a1.toList = ([108, 99, 97, 115, 101] : List UInt8)
    ·rw [if_pos c9] at H
     have c9b0 : (a1.toList == ([108, 99, 97, 115, 101] : List UInt8)) = true := beq_iff_eq.mpr c9
     have c9b1 : (a1.toList != ([108, 99, 97, 115, 101] : List UInt8)) = false := bne_eq_false_iff_eq.mpr c9
     clear c9
     simp only [Option.some.injEq, Prod.mk.injEq] at H
     obtain ⟨rfl, rfl, rfl, rfl, rfl, rfl, rfl, rfl, rfl, rfl, rfl, rfl, rfl, rfl, rfl, rfl, rfl, rfl, rfl, rfl, rfl, rfl, rfl, rfl, rfl, rfl, rfl⟩ := H
     obtain ⟨HGz10, hgz10⟩ := HI0.out
     have hcz10_3 := cellS28_3 HGz10
     have hfz10_3 := blk_frozen HGz10 3
     clear HGz10 hgz10
     go_enter Tryz.func48, Tryz.ntmps48
     go_wp2
     go_ret
     exact ⟨by first | rfl | (simp [errW_none, errW_some] <;> rfl) | (simp [*, errW_none, errW_some] <;> rfl), by repeat (first | (with_reducible first | exact HI0.out | apply IsS28.alloc | apply IsS28.drewN | apply IsS28.drew | apply IsS28.set_3) | exact HI0.out), by repeat (first | (with_reducible first | exact HB.out | apply below_alloc | apply pw_below_drewN | apply below_drew1 | refine below_set ?_ (IsS28.ge HI0.out)) | exact HB.out), by repeat (first | (with_reducible first | exact HK.out | apply KeepBut.set_ | apply keep_drewN | apply keep_drew | apply keep_alloc) | exact HK.out)⟩
    ·rw [if_neg c9] at H
     have c9b0 : (a1.toList == ([108, 99, 97, 115, 101] : List UInt8)) = false := beq_eq_false_iff_ne.mpr c9
     have c9b1 : (a1.toList != ([108, 99, 97, 115, 101] : List UInt8)) = true := bne_iff_ne.mpr c9
     by_cases c11 : a1.toList = ([117, 99, 97, 115, 101] : List UInt8)
     ·rw [if_pos c11] at H
      have c11b0 : (a1.toList == ([117, 99, 97, 115, 101] : List UInt8)) = true := beq_iff_eq.mpr c11
      have c11b1 : (a1.toList != ([117, 99, 97, 115, 101] : List UInt8)) = false := bne_eq_false_iff_eq.mpr c11
      clear c11
      simp only [Option.some.injEq, Prod.mk.injEq] at H
      obtain ⟨rfl, rfl, rfl, rfl, rfl, rfl, rfl, rfl, rfl, rfl, rfl, rfl, rfl, rfl, rfl, rfl, rfl, rfl, rfl, rfl, rfl, rfl, rfl, rfl, rfl, rfl, rfl⟩ := H
      obtain ⟨HGz12, hgz12⟩ := HI0.out
      have hcz12_4 := cellS28_4 HGz12
      have hfz12_4 := blk_frozen HGz12 4
      clear HGz12 hgz12
      go_enter Tryz.func48, Tryz.ntmps48
      go_wp2
      go_ret
      exact ⟨by first | rfl | (simp [errW_none, errW_some] <;> rfl) | (simp [*, errW_none, errW_some] <;> rfl), by repeat (first | (with_reducible first | exact HI0.out | apply IsS28.alloc | apply IsS28.drewN | apply IsS28.drew | apply IsS28.set_4) | exact HI0.out), by repeat (first | (with_reducible first | exact HB.out | apply below_alloc | apply pw_below_drewN | apply below_drew1 | refine below_set ?_ (IsS28.ge HI0.out)) | exact HB.out), by repeat (first | (with_reducible first | exact HK.out | apply KeepBut.set_ | apply keep_drewN | apply keep_drew | apply keep_alloc) | exact HK.out)⟩
     ·rw [if_neg c11] at H
      have c11b0 : (a1.toList == ([117, 99, 97, 115, 101] : List UInt8)) = false := beq_eq_false_iff_ne.mpr c11
      have c11b1 : (a1.toList != ([117, 99, 97, 115, 101] : List UInt8)) = true := bne_iff_ne.mpr c11
      by_cases c13 : a1.toList = ([97, 115, 99, 105, 105] : List UInt8)
      ·rw [if_pos c13] at H
       have c13b0 : (a1.toList == ([97, 115, 99, 105, 105] : List UInt8)) = true := beq_iff_eq.mpr c13
       have c13b1 : (a1.toList != ([97, 115, 99, 105, 105] : List UInt8)) = false := bne_eq_false_iff_eq.mpr c13
       clear c13
       simp only [Option.some.injEq, Prod.mk.injEq] at H
       obtain ⟨rfl, rfl, rfl, rfl, rfl, rfl, rfl, rfl, rfl, rfl, rfl, rfl, rfl, rfl, rfl, rfl, rfl, rfl, rfl, rfl, rfl, rfl, rfl, rfl, rfl, rfl, rfl⟩ := H
       obtain ⟨HGz14, hgz14⟩ := HI0.out
       have hcz14_5 := cellS28_5 HGz14
       have hfz14_5 := blk_frozen HGz14 5
       clear HGz14 hgz14
       go_enter Tryz.func48, Tryz.ntmps48
       go_wp2
       go_ret
       exact ⟨by first | rfl | (simp [errW_none, errW_some] <;> rfl) | (simp [*, errW_none, errW_some] <;> rfl), by repeat (first | (with_reducible first | exact HI0.out | apply IsS28.alloc | apply IsS28.drewN | apply IsS28.drew | apply IsS28.set_5) | exact HI0.out), by repeat (first | (with_reducible first | exact HB.out | apply below_alloc | apply pw_below_drewN | apply below_drew1 | refine below_set ?_ (IsS28.ge HI0.out)) | exact HB.out), by repeat (first | (with_reducible first | exact HK.out | apply KeepBut.set_ | apply keep_drewN | apply keep_drew | apply keep_alloc) | exact HK.out)⟩
      ·rw [if_neg c13] at H
       have c13b0 : (a1.toList == ([97, 115, 99, 105, 105] : List UInt8)) = false := beq_eq_false_iff_ne.mpr c13
       have c13b1 : (a1.toList != ([97, 115, 99, 105, 105] : List UInt8)) = true := bne_iff_ne.mpr c13
       by_cases c15 : a1.toList = ([101, 98, 99, 100, 105, 99] : List UInt8)
       ·rw [if_pos c15] at H
        have c15b0 : (a1.toList == ([101, 98, 99, 100, 105, 99] : List UInt8)) = true := beq_iff_eq.mpr c15
        have c15b1 : (a1.toList != ([101, 98, 99, 100, 105, 99] : List UInt8)) = false := bne_eq_false_iff_eq.mpr c15
        clear c15
        simp only [Option.some.injEq, Prod.mk.injEq] at H
        obtain ⟨rfl, rfl, rfl, rfl, rfl, rfl, rfl, rfl, rfl, rfl, rfl, rfl, rfl, rfl, rfl, rfl, rfl, rfl, rfl, rfl, rfl, rfl, rfl, rfl, rfl, rfl, rfl⟩ := H
        obtain ⟨HGz16, hgz16⟩ := HI0.out
        have hcz16_6 := cellS28_6 HGz16
        have hfz16_6 := blk_frozen HGz16 6
        clear HGz16 hgz16
        go_enter Tryz.func48, Tryz.ntmps48
        go_wp2
        go_ret
        exact ⟨by first | rfl | (simp [errW_none, errW_some] <;> rfl) | (simp [*, errW_none, errW_some] <;> rfl), by repeat (first | (with_reducible first | exact HI0.out | apply IsS28.alloc | apply IsS28.drewN | apply IsS28.drew | apply IsS28.set_6) | exact HI0.out), by repeat (first | (with_reducible first | exact HB.out | apply below_alloc | apply pw_below_drewN | apply below_drew1 | refine below_set ?_ (IsS28.ge HI0.out)) | exact HB.out), by repeat (first | (with_reducible first | exact HK.out | apply KeepBut.set_ | apply keep_drewN | apply keep_drew | apply keep_alloc) | exact HK.out)⟩
       ·rw [if_neg c15] at H
        have c15b0 : (a1.toList == ([101, 98, 99, 100, 105, 99] : List UInt8)) = false := beq_eq_false_iff_ne.mpr c15
        have c15b1 : (a1.toList != ([101, 98, 99, 100, 105, 99] : List UInt8)) = true := bne_iff_ne.mpr c15
        by_cases c17 : a1.toList = ([105, 98, 109] : List UInt8)
        ·rw [if_pos c17] at H
         have c17b0 : (a1.toList == ([105, 98, 109] : List UInt8)) = true := beq_iff_eq.mpr c17
         have c17b1 : (a1.toList != ([105, 98, 109] : List UInt8)) = false := bne_eq_false_iff_eq.mpr c17
         clear c17
         simp only [Option.some.injEq, Prod.mk.injEq] at H
         obtain ⟨rfl, rfl, rfl, rfl, rfl, rfl, rfl, rfl, rfl, rfl, rfl, rfl, rfl, rfl, rfl, rfl, rfl, rfl, rfl, rfl, rfl, rfl, rfl, rfl, rfl, rfl, rfl⟩ := H
         obtain ⟨HGz18, hgz18⟩ := HI0.out
         have hcz18_7 := cellS28_7 HGz18
         have hfz18_7 := blk_frozen HGz18 7
         clear HGz18 hgz18
         go_enter Tryz.func48, Tryz.ntmps48
         go_wp2
         go_ret
         exact ⟨by first | rfl | (simp [errW_none, errW_some] <;> rfl) | (simp [*, errW_none, errW_some] <;> rfl), by repeat (first | (with_reducible first | exact HI0.out | apply IsS28.alloc | apply IsS28.drewN | apply IsS28.drew | apply IsS28.set_7) | exact HI0.out), by repeat (first | (with_reducible first | exact HB.out | apply below_alloc | apply pw_below_drewN | apply below_drew1 | refine below_set ?_ (IsS28.ge HI0.out)) | exact HB.out), by repeat (first | (with_reducible first | exact HK.out | apply KeepBut.set_ | apply keep_drewN | apply keep_drew | apply keep_alloc) | exact HK.out)⟩
        ·rw [if_neg c17] at H
         have c17b0 : (a1.toList == ([105, 98, 109] : List UInt8)) = false := beq_eq_false_iff_ne.mpr c17
         have c17b1 : (a1.toList != ([105, 98, 109] : List UInt8)) = true := bne_iff_ne.mpr c17
         by_cases c19 : a1.toList = ([115, 121, 110, 99] : List UInt8)
         ·rw [if_pos c19] at H
          have c19b0 : (a1.toList == ([115, 121, 110, 99] : List UInt8)) = true := beq_iff_eq.mpr c19
          have c19b1 : (a1.toList != ([115, 121, 110, 99] : List UInt8)) = false := bne_eq_false_iff_eq.mpr c19
          clear c19
          simp only [Option.some.injEq, Prod.mk.injEq] at H
          obtain ⟨rfl, rfl, rfl, rfl, rfl, rfl, rfl, rfl, rfl, rfl, rfl, rfl, rfl, rfl, rfl, rfl, rfl, rfl, rfl, rfl, rfl, rfl, rfl, rfl, rfl, rfl, rfl⟩ := H
          obtain ⟨HGz20, hgz20⟩ := HI0.out
          have hcz20_19 := cellS28_19 HGz20
          have hfz20_19 := blk_frozen HGz20 19
          clear HGz20 hgz20
          go_enter Tryz.func48, Tryz.ntmps48
          go_wp2
          go_ret
          exact ⟨by first | rfl | (simp [errW_none, errW_some] <;> rfl) | (simp [*, errW_none, errW_some] <;> rfl), by repeat (first | (with_reducible first | exact HI0.out | apply IsS28.alloc | apply IsS28.drewN | apply IsS28.drew | apply IsS28.set_19) | exact HI0.out), by repeat (first | (with_reducible first | exact HB.out | apply below_alloc | apply pw_below_drewN | apply below_drew1 | refine below_set ?_ (IsS28.ge HI0.out)) | exact HB.out), by repeat (first | (with_reducible first | exact HK.out | apply KeepBut.set_ | apply keep_drewN | apply keep_drew | apply keep_alloc) | exact HK.out)⟩
         ·rw [if_neg c19] at H
          have c19b0 : (a1.toList == ([115, 121, 110, 99] : List UInt8)) = false := beq_eq_false_iff_ne.mpr c19
          have c19b1 : (a1.toList != ([115, 121, 110, 99] : List UInt8)) = true := bne_iff_ne.mpr c19
          by_cases c21 : a1.toList = ([110, 111, 101, 114, 114, 111, 114] : List UInt8)
          ·rw [if_pos c21] at H
           have c21b0 : (a1.toList == ([110, 111, 101, 114, 114, 111, 114] : List UInt8)) = true := beq_iff_eq.mpr c21
           have c21b1 : (a1.toList != ([110, 111, 101, 114, 114, 111, 114] : List UInt8)) = false := bne_eq_false_iff_eq.mpr c21
           clear c21
           simp only [Option.some.injEq, Prod.mk.injEq] at H
           obtain ⟨rfl, rfl, rfl, rfl, rfl, rfl, rfl, rfl, rfl, rfl, rfl, rfl, rfl, rfl, rfl, rfl, rfl, rfl, rfl, rfl, rfl, rfl, rfl, rfl, rfl, rfl, rfl⟩ := H
           obtain ⟨HGz22, hgz22⟩ := HI0.out
           have hcz22_20 := cellS28_20 HGz22
           have hfz22_20 := blk_frozen HGz22 20
           clear HGz22 hgz22
           go_enter Tryz.func48, Tryz.ntmps48
           go_wp2
           go_ret
           exact ⟨by first | rfl | (simp [errW_none, errW_some] <;> rfl) | (simp [*, errW_none, errW_some] <;> rfl), by repeat (first | (with_reducible first | exact HI0.out | apply IsS28.alloc | apply IsS28.drewN | apply IsS28.drew | apply IsS28.set_20) | exact HI0.out), by repeat (first | (with_reducible first | exact HB.out | apply below_alloc | apply pw_below_drewN | apply below_drew1 | refine below_set ?_ (IsS28.ge HI0.out)) | exact HB.out), by repeat (first | (with_reducible first | exact HK.out | apply KeepBut.set_ | apply keep_drewN | apply keep_drew | apply keep_alloc) | exact HK.out)⟩
          ·rw [if_neg c21] at H
           have c21b0 : (a1.toList == ([110, 111, 101, 114, 114, 111, 114] : List UInt8)) = false := beq_eq_false_iff_ne.mpr c21
           have c21b1 : (a1.toList != ([110, 111, 101, 114, 114, 111, 114] : List UInt8)) = true := bne_iff_ne.mpr c21
           by_cases c23 : a1.toList = ([110, 111, 116, 114, 117, 110, 99] : List UInt8)
           ·rw [if_pos c23] at H
            have c23b0 : (a1.toList == ([110, 111, 116, 114, 117, 110, 99] : List UInt8)) = true := beq_iff_eq.mpr c23
            have c23b1 : (a1.toList != ([110, 111, 116, 114, 117, 110, 99] : List UInt8)) = false := bne_eq_false_iff_eq.mpr c23
            clear c23
            simp only [Option.some.injEq, Prod.mk.injEq] at H
            obtain ⟨rfl, rfl, rfl, rfl, rfl, rfl, rfl, rfl, rfl, rfl, rfl, rfl, rfl, rfl, rfl, rfl, rfl, rfl, rfl, rfl, rfl, rfl, rfl, rfl, rfl, rfl, rfl⟩ := H
            obtain ⟨HGz24, hgz24⟩ := HI0.out
            have hcz24_21 := cellS28_21 HGz24
            have hfz24_21 := blk_frozen HGz24 21
            clear HGz24 hgz24
            go_enter Tryz.func48, Tryz.ntmps48
            go_wp2
            go_ret
            exact ⟨by first | rfl | (simp [errW_none, errW_some] <;> rfl) | (simp [*, errW_none, errW_some] <;> rfl), by repeat (first | (with_reducible first | exact HI0.out | apply IsS28.alloc | apply IsS28.drewN | apply IsS28.drew | apply IsS28.set_21) | exact HI0.out), by repeat (first | (with_reducible first | exact HB.out | apply below_alloc | apply pw_below_drewN | apply below_drew1 | refine below_set ?_ (IsS28.ge HI0.out)) | exact HB.out), by repeat (first | (with_reducible first | exact HK.out | apply KeepBut.set_ | apply keep_drewN | apply keep_drew | apply keep_alloc) | exact HK.out)⟩
           ·rw [if_neg c23] at H
            have c23b0 : (a1.toList == ([110, 111, 116, 114, 117, 110, 99] : List UInt8)) = false := beq_eq_false_iff_ne.mpr c23
            have c23b1 : (a1.toList != ([110, 111, 116, 114, 117, 110, 99] : List UInt8)) = true := bne_iff_ne.mpr c23
            by_cases c25 : a1.toList = ([115, 112, 97, 114, 115, 101] : List UInt8)
            ·rw [if_pos c25] at H
             have c25b0 : (a1.toList == ([115, 112, 97, 114, 115, 101] : List UInt8)) = true := beq_iff_eq.mpr c25
             have c25b1 : (a1.toList != ([115, 112, 97, 114, 115, 101] : List UInt8)) = false := bne_eq_false_iff_eq.mpr c25
             clear c25
             simp only [Option.some.injEq, Prod.mk.injEq] at H
             obtain ⟨rfl, rfl, rfl, rfl, rfl, rfl, rfl, rfl, rfl, rfl, rfl, rfl, rfl, rfl, rfl, rfl, rfl, rfl, rfl, rfl, rfl, rfl, rfl, rfl, rfl, rfl, rfl⟩ := H
             obtain ⟨HGz26, hgz26⟩ := HI0.out
             have hcz26_22 := cellS28_22 HGz26
             have hfz26_22 := blk_frozen HGz26 22
             clear HGz26 hgz26
             go_enter Tryz.func48, Tryz.ntmps48
             go_wp2
             go_ret
             exact ⟨by first | rfl | (simp [errW_none, errW_some] <;> rfl) | (simp [*, errW_none, errW_some] <;> rfl), by repeat (first | (with_reducible first | exact HI0.out | apply IsS28.alloc | apply IsS28.drewN | apply IsS28.drew | apply IsS28.set_22) | exact HI0.out), by repeat (first | (with_reducible first | exact HB.out | apply below_alloc | apply pw_below_drewN | apply below_drew1 | refine below_set ?_ (IsS28.ge HI0.out)) | exact HB.out), by repeat (first | (with_reducible first | exact HK.out | apply KeepBut.set_ | apply keep_drewN | apply keep_drew | apply keep_alloc) | exact HK.out)⟩
            ·rw [if_neg c25] at H
             have c25b0 : (a1.toList == ([115, 112, 97, 114, 115, 101] : List UInt8)) = false := beq_eq_false_iff_ne.mpr c25
             have c25b1 : (a1.toList != ([115, 112, 97, 114, 115, 101] : List UInt8)) = true := bne_iff_ne.mpr c25
             by_cases c27 : a1.toList = ([102, 115, 121, 110, 99] : List UInt8)
             ·rw [if_pos c27] at H
              have c27b0 : (a1.toList == ([102, 115, 121, 110, 99] : List UInt8)) = true := beq_iff_eq.mpr c27
              have c27b1 : (a1.toList != ([102, 115, 121, 110, 99] : List UInt8)) = false := bne_eq_false_iff_eq.mpr c27
              clear c27
              simp only [Option.some.injEq, Prod.mk.injEq] at H
              obtain ⟨rfl, rfl, rfl, rfl, rfl, rfl, rfl, rfl, rfl, rfl, rfl, rfl, rfl, rfl, rfl, rfl, rfl, rfl, rfl, rfl, rfl, rfl, rfl, rfl, rfl, rfl, rfl⟩ := H
              obtain ⟨HGz28, hgz28⟩ := HI0.out
              have hcz28_23 := cellS28_23 HGz28
              have hfz28_23 := blk_frozen HGz28 23
              clear HGz28 hgz28
              go_enter Tryz.func48, Tryz.ntmps48
              go_wp2
              go_ret
              exact ⟨by first | rfl | (simp [errW_none, errW_some] <;> rfl) | (simp [*, errW_none, errW_some] <;> rfl), by repeat (first | (with_reducible first | exact HI0.out | apply IsS28.alloc | apply IsS28.drewN | apply IsS28.drew | apply IsS28.set_23) | exact HI0.out), by repeat (first | (with_reducible first | exact HB.out | apply below_alloc | apply pw_below_drewN | apply below_drew1 | refine below_set ?_ (IsS28.ge HI0.out)) | exact HB.out), by repeat (first | (with_reducible first | exact HK.out | apply KeepBut.set_ | apply keep_drewN | apply keep_drew | apply keep_alloc) | exact HK.out)⟩
             ·rw [if_neg c27] at H
              have c27b0 : (a1.toList == ([102, 115, 121, 110, 99] : List UInt8)) = false := beq_eq_false_iff_ne.mpr c27
              have c27b1 : (a1.toList != ([102, 115, 121, 110, 99] : List UInt8)) = true := bne_iff_ne.mpr c27
              by_cases c29 : a1.toList = ([101, 120, 99, 108] : List UInt8)
              ·rw [if_pos c29] at H
               have c29b0 : (a1.toList == ([101, 120, 99, 108] : List UInt8)) = true := beq_iff_eq.mpr c29
               have c29b1 : (a1.toList != ([101, 120, 99, 108] : List UInt8)) = false := bne_eq_false_iff_eq.mpr c29
               clear c29
               simp only [Option.some.injEq, Prod.mk.injEq] at H
               obtain ⟨rfl, rfl, rfl, rfl, rfl, rfl, rfl, rfl, rfl, rfl, rfl, rfl, rfl, rfl, rfl, rfl, rfl, rfl, rfl, rfl, rfl, rfl, rfl, rfl, rfl, rfl, rfl⟩ := H
               obtain ⟨HGz30, hgz30⟩ := HI0.out
               have hcz30_24 := cellS28_24 HGz30
               have hfz30_24 := blk_frozen HGz30 24
               clear HGz30 hgz30
               go_enter Tryz.func48, Tryz.ntmps48
               go_wp2
               go_ret
               exact ⟨by first | rfl | (simp [errW_none, errW_some] <;> rfl) | (simp [*, errW_none, errW_some] <;> rfl), by repeat (first | (with_reducible first | exact HI0.out | apply IsS28.alloc | apply IsS28.drewN | apply IsS28.drew | apply IsS28.set_24) | exact HI0.out), by repeat (first | (with_reducible first | exact HB.out | apply below_alloc | apply pw_below_drewN | apply below_drew1 | refine below_set ?_ (IsS28.ge HI0.out)) | exact HB.out), by repeat (first | (with_reducible first | exact HK.out | apply KeepBut.set_ | apply keep_drewN | apply keep_drew | apply keep_alloc) | exact HK.out)⟩
              ·rw [if_neg c29] at H
               have c29b0 : (a1.toList == ([101, 120, 99, 108] : List UInt8)) = false := beq_eq_false_iff_ne.mpr c29
               have c29b1 : (a1.toList != ([101, 120, 99, 108] : List UInt8)) = true := bne_iff_ne.mpr c29
               by_cases c31 : a1.toList = ([110, 111, 99, 114, 101, 97, 116] : List UInt8)
               ·rw [if_pos c31] at H
                have c31b0 : (a1.toList == ([110, 111, 99, 114, 101, 97, 116] : List UInt8)) = true := beq_iff_eq.mpr c31
                have c31b1 : (a1.toList != ([110, 111, 99, 114, 101, 97, 116] : List UInt8)) = false := bne_eq_false_iff_eq.mpr c31
                clear c31
                simp only [Option.some.injEq, Prod.mk.injEq] at H
                obtain ⟨rfl, rfl, rfl, rfl, rfl, rfl, rfl, rfl, rfl, rfl, rfl, rfl, rfl, rfl, rfl, rfl, rfl, rfl, rfl, rfl, rfl, rfl, rfl, rfl, rfl, rfl, rfl⟩ := H
                obtain ⟨HGz32, hgz32⟩ := HI0.out
                have hcz32_25 := cellS28_25 HGz32
                have hfz32_25 := blk_frozen HGz32 25
                clear HGz32 hgz32
                go_enter Tryz.func48, Tryz.ntmps48
                go_wp2
                go_ret
                exact ⟨by first | rfl | (simp [errW_none, errW_some] <;> rfl) | (simp [*, errW_none, errW_some] <;> rfl), by repeat (first | (with_reducible first | exact HI0.out | apply IsS28.alloc | apply IsS28.drewN | apply IsS28.drew | apply IsS28.set_25) | exact HI0.out), by repeat (first | (with_reducible first | exact HB.out | apply below_alloc | apply pw_below_drewN | apply below_drew1 | refine below_set ?_ (IsS28.ge HI0.out)) | exact HB.out), by repeat (first | (with_reducible first | exact HK.out | apply KeepBut.set_ | apply keep_drewN | apply keep_drew | apply keep_alloc) | exact HK.out)⟩
               ·rw [if_neg c31] at H
                have c31b0 : (a1.toList == ([110, 111, 99, 114, 101, 97, 116] : List UInt8)) = false := beq_eq_false_iff_ne.mpr c31
                have c31b1 : (a1.toList != ([110, 111, 99, 114, 101, 97, 116] : List UInt8)) = true := bne_iff_ne.mpr c31
                simp only [Option.some.injEq, Prod.mk.injEq] at H
                obtain ⟨rfl, rfl, rfl, rfl, rfl, rfl, rfl, rfl, rfl, rfl, rfl, rfl, rfl, rfl, rfl, rfl, rfl, rfl, rfl, rfl, rfl, rfl, rfl, rfl, rfl, rfl, rfl⟩ := H
                go_enter Tryz.func48, Tryz.ntmps48
                go_wp2
                go_ret
                exact ⟨by first | rfl | (simp [errW_none, errW_some] <;> rfl) | (simp [*, errW_none, errW_some] <;> rfl), by repeat (first | (with_reducible first | exact HI0.out | apply IsS28.alloc | apply IsS28.drewN | apply IsS28.drew | apply IsS28.set_25) | exact HI0.out), by repeat (first | (with_reducible first | exact HB.out | apply below_alloc | apply pw_below_drewN | apply below_drew1 | refine below_set ?_ (IsS28.ge HI0.out)) | exact HB.out), by repeat (first | (with_reducible first | exact HK.out | apply KeepBut.set_ | apply keep_drewN | apply keep_drew | apply keep_alloc) | exact HK.out)⟩
end Go.Proofs.YtbmhfnncagncmaaGreatDoor.P
