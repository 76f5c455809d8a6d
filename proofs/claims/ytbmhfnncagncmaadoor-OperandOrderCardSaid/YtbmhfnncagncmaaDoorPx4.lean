/- Laid by a program of this session's own (wip/wprint.py, over the kit's print.py): functions of the given program as plain Lean functions, and that the program's calls come to their answers. -/
import Derived.Test.YtbmhfnncagncmaaDoorPx0
import Derived.RangeFuncNested
import Derived.RangeFuncBox
import Derived.RangeFuncBound
import Derived.RangeFuncCalls
import Derived.RangeFuncLeaves
import Derived.OwnWalkIn
import Derived.TacticsInMore
import Derived.LoopNIn
import Derived.LoopIn
import Derived.Shelf.Abstract
namespace Go.Proofs.YtbmhfnncagncmaaDoor.P
open Go.RowKit Go.Proofs.YtbmhfnncagncmaaDoorW.PrintWords Go.Proofs.YtbmhfnncagncmaaDoorW.PrintLast Go.Proofs.YtbmhfnncagncmaaDoorW.PrintMore
attribute [local go_sem] max2_int min2_int max_two min_two max_three min_three max_four min_four   -- for this text's walks alone
set_option linter.unusedVariables false
set_option linter.unusedSimpArgs false

/-! ### arg_Find: function 21 -/
attribute [local go_sem] Oper.semAt_some max2_int min2_int max_two min_two
/-- The indexes that have come, from the end. -/
def arg_Find.bk (n k : Nat) : List Nat := (List.range' k (n - k)).reverse
theorem arg_Find.bk_top (n : Nat) : arg_Find.bk n n = [] := by simp [arg_Find.bk]
theorem arg_Find.bk_step (n k : Nat) (h : k < n) : arg_Find.bk n (k + 1) ++ [k] = arg_Find.bk n k := by
  unfold arg_Find.bk
  rw [show n - k = (n - (k + 1)) + 1 from by omega, List.range'_succ, List.reverse_cons]
theorem arg_Find.bk_length (n k : Nat) : (arg_Find.bk n k).length = n - k := by simp [arg_Find.bk]
/-- The cells of the elements, below n₀. -/
def arg_Find.Cells (n₀ : Nat) (W : World) (A : Option Addr) (zs : List S60) : Prop :=
  ∀ i : Int, 0 ≤ i → i < (zs.length : Int) → ∃ ad, A = some ad ∧ (ad.add (i.toNat * 2)).block < n₀ ∧ W.cell? (ad.add (i.toNat * 2)) = some (.string (rd_T60 zs i).f0) ∧ W.cell? ⟨(ad.add (i.toNat * 2)).block, (ad.add (i.toNat * 2)).off + 1, none⟩ = some (.string (rd_T60 zs i).f1)
theorem arg_Find.Cells.below {n₀ : Nat} {W W' : World} {A : Option Addr} {zs : List S60} (h : arg_Find.Cells n₀ W A zs) (hb : Below n₀ W W') : arg_Find.Cells n₀ W' A zs := by
  intro i h0 h1
  obtain ⟨ad, e, hlt, c0, c1⟩ := h i h0 h1
  exact ⟨ad, e, hlt, (hb.cell hlt).trans c0, (hb.cell (p := ⟨(ad.add (i.toNat * 2)).block, (ad.add (i.toNat * 2)).off + 1, none⟩) hlt).trans c1⟩
theorem arg_Find.Cells.of {W : World} {A : Option Addr} {zs : List S60} {n₀ : Nat} (h : Kd.C k60 W A zs.length zs) (hn : W.heap.size ≤ n₀) : arg_Find.Cells n₀ W A zs := by
  intro i h0 h1
  obtain ⟨ad, e, c0, c1⟩ := at_T60 h i h0 h1
  exact ⟨ad, e, Nat.lt_of_lt_of_le ((World.block_lt_of_cell? W _ c0 : (ad.add (i.toNat * 2)).block < _)) hn, c0, c1⟩
def arg_Find.enc (zs : List S60) (i : Nat) : Array Value := #[.int .i64 (i : Int), .agg #[.string (rd_T60 zs i).f0, .string (rd_T60 zs i).f1]]

set_option maxRecDepth 100000 in
set_option maxHeartbeats 2000000 in
theorem arg_Find.back1_in (F : Fence) (n : Nat) (hf : F.fn 49) (hro : F.round = none) (hn : 1 ≤ n) (l Bs n₀ : Nat) (A : Option Addr) (cap : Nat) (zs : List S60) (hlen : zs.length ≤ 9223372036854775807) (hB : Bs < n₀) (J Jx : List Nat → World → Prop)
    (hY : ∀ pre x W, J pre W → pre.length < zs.length → YieldAt F (n - 1) Tryd.prog l (arg_Find.enc zs x) W fun e W' =>
      (e = .returned (.bool true) ∧ J (pre ++ [x]) W' ∧ Below n₀ W W') ∨ (e = .returned (.bool false) ∧ Jx (pre ++ [x]) W'))
    (W : World) (hBs : W.cell? ⟨Bs, 0, none⟩ = some (.slice A zs.length cap)) (hc : arg_Find.Cells n₀ W A zs) (h0 : J [] W) :
    CallsIn F n Tryd.prog 49 #[.func (.yield l) #[] #[], .pointer (some ⟨Bs, 0, none⟩)] W fun e W' => (∃ v, e = .returned v) ∧
      ((∃ ys, ys = arg_Find.bk zs.length 0 ∧ J ys W') ∨ (∃ pre, (∃ k, k < zs.length ∧ pre = arg_Find.bk zs.length k) ∧ Jx pre W')) := by
  refine callsIn_of_wp Tryd.func49 rfl hf ?_ hro
  simp only [Tryd.ntmps49, List.size_toArray, List.length_cons, List.length_nil, Nat.reduceAdd, Nat.reduceSub, Array.replicate_succ, Array.replicate_zero, List.push_toArray, List.append_toArray, List.nil_append, List.cons_append]
  have hlen' : (zs.length : Int) ≤ 9223372036854775807 := by omega
  have hlen0 : 0 ≤ (zs.length : Int) := by omega
  gi_wp2
  gi_loopw [3] (fun i wr => ∃ j : Int, -1 ≤ j ∧ j < (zs.length : Int) ∧ i = .int .i64 j ∧ J (arg_Find.bk zs.length (j + 1).toNat) wr ∧ Below n₀ W wr)
    (fun i _ => (intOf i + 1).toNat)
  case atStart =>
    refine ⟨(zs.length : Int) - 1, by omega, by omega, by go_num, ?_, Below.refl _ _⟩
    rw [show ((zs.length : Int) - 1 + 1).toNat = zs.length from by omega, arg_Find.bk_top]
    exact h0
  case round =>
    obtain ⟨j, hj0, hj1, rfl, hJs, hnx⟩ := hrel
    have hcB : wr.cell? ⟨Bs, 0, none⟩ = some (.slice A zs.length cap) := (hnx.cell (p := ⟨Bs, 0, none⟩) hB).trans hBs
    by_cases hge : 0 ≤ j
    · obtain ⟨fn, tmps, assign, body, hy, hR⟩ := hY _ j.toNat wr hJs (by rw [arg_Find.bk_length]; omega)
      obtain ⟨ad, e, hlt, c0, c1⟩ := hc.below hnx j hge hj1
      subst e
      simp only [arg_Find.enc, show ((j.toNat : Nat) : Int) = j from by omega] at hy hR
      have p1 := eq_true hge
      have p2 := eq_true hj1
      gi_wp2
      refine hR.mono ?_
      rintro e W3 (⟨rfl, hJ3, hk3⟩ | ⟨rfl, hJx3⟩)
      · gi_wp2
        go_roundw
        case rel =>
          refine ⟨j - 1, by omega, by omega, by go_num, ?_, hnx.trans hk3⟩
          rw [show (j - 1 + 1).toNat = j.toNat from by omega]
          rw [show (j + 1).toNat = j.toNat + 1 from by omega, arg_Find.bk_step _ _ (by omega)] at hJ3
          exact hJ3
        case measure => simp [intOf]; omega
      · gi_wp2
        refine bodyPost_ret (results_none rfl _ _ _) rfl ?_
        rw [show (j + 1).toNat = j.toNat + 1 from by omega, arg_Find.bk_step _ _ (by omega)] at hJx3
        exact ⟨⟨_, rfl⟩, .inr ⟨_, ⟨j.toNat, by omega, rfl⟩, hJx3⟩⟩
    · obtain rfl : j = -1 := by omega
      gi_wp2
      go_end0
      exact ⟨⟨_, rfl⟩, .inl hJs⟩

/-- The last value of a key, among those ahead of an index. -/
def arg_Find.g (l : List S60) (key : ByteArray) : Nat → ByteArray × Bool
  | 0 => (⟨#[]⟩, false)
  | i + 1 => if (rd_T60 l i).f0.toList = key.toList then ((rd_T60 l i).f1, true) else arg_Find.g l key i
def arg_Find.f (l0 : List S60) (a1 : ByteArray) : Option (ByteArray × Bool) := some (arg_Find.g l0 a1 l0.length)
theorem arg_Find.g_skip (l : List S60) (key : ByteArray) : ∀ n, (∀ i : Nat, i < n → ¬ ((rd_T60 l i).f0.toList = key.toList)) → arg_Find.g l key n = (⟨#[]⟩, false)
  | 0, _ => rfl
  | n + 1, h => by
    rw [arg_Find.g, if_neg (h n (by omega))]
    exact arg_Find.g_skip l key n (fun i hi => h i (by omega))
theorem arg_Find.g_hit (l : List S60) (key : ByteArray) (j : Nat) (hj : (rd_T60 l j).f0.toList = key.toList) : ∀ n, j < n → (∀ i : Nat, j < i → i < n → ¬ ((rd_T60 l i).f0.toList = key.toList)) → arg_Find.g l key n = ((rd_T60 l j).f1, true)
  | n + 1, h, hn => by
    rw [arg_Find.g]
    by_cases e : n = j
    · subst e; rw [if_pos hj]
    · rw [if_neg (hn n (by omega) (by omega))]
      exact arg_Find.g_hit l key j hj n (by omega) (fun i h1 h2 => hn i h1 (by omega))
def arg_Find.hit (l : List S60) (key : ByteArray) (i : Nat) : Prop := (rd_T60 l i).f0.toList = key.toList
theorem arg_Find.mem_bk {n k i : Nat} : i ∈ arg_Find.bk n k ↔ k ≤ i ∧ i < n := by
  simp only [arg_Find.bk, List.mem_reverse, List.mem_range'_1]; omega

set_option maxHeartbeats 1000000 in
theorem arg_Find.back_in (F : Fence) (n : Nat) (hf : F.fn 37) (hro : F.round = none) (A : Option Addr) (len cap : Nat) (w : World) :
    CallsIn F n Tryd.prog 37 #[.slice A len cap] w fun e w' => e = .returned (.func (.func 49) #[] #[.pointer (some ⟨w.heap.size, 0, none⟩)]) ∧ w' = w.alloc (.cells #[.slice A len cap] 37) := by
  refine callsIn_of_wp Tryd.func37 rfl hf ?_ hro
  simp only [Tryd.ntmps37, List.size_toArray, List.length_cons, List.length_nil, Nat.reduceAdd, Nat.reduceSub, Array.replicate_succ, Array.replicate_zero, List.push_toArray, List.append_toArray, List.nil_append, List.cons_append]
  gi_wp2
  go_ret
  exact ⟨rfl, rfl⟩

theorem arg_Find.back_stops (F : Fence) (n : Nat) (hf : F.fn 49) (hro : F.round = none) (hn : 1 ≤ n) (Bs n₀ : Nat) (A : Option Addr) (cap : Nat) (zs : List S60) (hlen : zs.length ≤ 9223372036854775807) (w : World) (hB : Bs < n₀) (hn₀ : n₀ ≤ w.heap.size)
    (hc : w.cell? ⟨Bs, 0, none⟩ = some (.slice A zs.length cap)) (hC : arg_Find.Cells n₀ w A zs) :
    SeqStopsK F n Tryd.prog 49 #[.pointer (some ⟨Bs, 0, none⟩)] (arg_Find.enc zs) (Below n₀) (fun ys => ys = arg_Find.bk zs.length 0) (fun pre => ∃ k, k < zs.length ∧ pre = arg_Find.bk zs.length k) zs.length w := fun l J Jx W hW _ _ hY h0 =>
  arg_Find.back1_in F n hf hro hn l Bs n₀ A cap zs hlen hB J Jx hY W ((hW.cell (p := ⟨Bs, 0, none⟩) (Nat.lt_of_lt_of_le hB hn₀)).trans hc) (hC.below (hW.mono hn₀)) h0

/-- A block of cells. -/
def arg_Find.Blk (W : World) (B : Nat) (t : TypeId) (cs : Array Value) : Prop := W.heap[B]? = some (.cells cs t (0, 0))
theorem arg_Find.Blk.lt {W : World} {B : Nat} {t : TypeId} {cs : Array Value} (h : arg_Find.Blk W B t cs) : B < W.heap.size := (Array.getElem?_eq_some_iff.1 h).1
theorem arg_Find.Blk.own {β : Type} (B : Nat) (t : TypeId) (f : β → Array Value) : Own (fun s W => arg_Find.Blk W B t (f s)) := fun s X Y row hs hg hrow =>
  (hg.block B (arg_Find.Blk.lt hs) (fun e' => by obtain ⟨o, ho, hc⟩ := hrow B e'.symm; rw [show X.heap[B]? = _ from hs] at ho; cases ho; cases hc)).trans hs
theorem arg_Find.Blk.cell {W : World} {B : Nat} {t : TypeId} {cs : Array Value} (h : arg_Find.Blk W B t cs) (j : Nat) : W.cell? ⟨B, j, none⟩ = cs[j]? := by simp [World.cell?, show W.heap[B]? = _ from h]
theorem arg_Find.Blk.frozen {W : World} {B : Nat} {t : TypeId} {cs : Array Value} (h : arg_Find.Blk W B t cs) (j : Nat) : W.frozen? ⟨B, j, none⟩ = false := by simp [World.frozen?, show W.heap[B]? = _ from h]
theorem arg_Find.Blk.new (W : World) (t : TypeId) (cs : Array Value) : arg_Find.Blk (W.alloc (.cells cs t)) W.heap.size t cs := World.alloc_heap_new W _
theorem arg_Find.Blk.alloc {W : World} {B : Nat} {t : TypeId} {cs : Array Value} (h : arg_Find.Blk W B t cs) (o : Obj) : arg_Find.Blk (W.alloc o) B t cs := (Below.heap_alloc W o B h.lt).trans h
theorem arg_Find.Blk.other {W : World} {B : Nat} {t : TypeId} {cs : Array Value} (h : arg_Find.Blk W B t cs) (p : Addr) (hne : B ≠ p.block) (u : Value) : arg_Find.Blk (W.setCell p u) B t cs := (Below.heap_setCell W p u B hne).trans h
theorem arg_Find.Blk.set {W : World} {B : Nat} {t : TypeId} {cs : Array Value} (h : arg_Find.Blk W B t cs) (j : Nat) (u : Value) : arg_Find.Blk (W.setCell ⟨B, j, none⟩ u) B t (cs.setIfInBounds j u) := by
  have h1 : W.heap[B]? = some (.cells cs t (0, 0)) := h
  obtain ⟨hlt, hk⟩ := Array.getElem?_eq_some_iff.1 h1
  show (W.heap.modify B _)[B]? = _
  rw [Array.getElem?_eq_getElem (by rw [Array.size_modify]; exact hlt), Array.getElem_modify_self, hk]
  rfl
set_option maxRecDepth 100000 in
set_option maxHeartbeats 4000000 in
theorem arg_Find.calls (A0 : Option Addr) (c0 : Nat) (l0 : List (S60)) (a1 : ByteArray) (r1 : ByteArray) (r2 : Bool) (w : World) (hr0 : Kd.C k60 w A0 l0.length l0) (hc0 : l0.length ≤ c0) (h : arg_Find.f l0 a1 = some (r1, r2)) :
    Calls Tryd.prog 21 #[.slice A0 l0.length c0, .string a1] w fun e w' => e = .returned (.tuple #[.string r1, .bool r2]) ∧ Below w.heap.size w w' := by
  have h2 := Option.some.inj h
  clear h
  have HB3 : Below w.heap.size w (((w.alloc (.cells #[.string a1] 9)).alloc (.cells #[.string ⟨#[]⟩] 9)).alloc (.cells #[.bool false] 4)) := (((Below.refl _ w).alloc (Nat.le_refl _) _).alloc (by simp) _).alloc (by simp; omega) _
  have hr3 := Kd.C_below hr0 HB3
  refine (callsIn_wide (n := 6)).1 ?_
  refine callsIn_of_wp_marks Tryd.func21 rfl trivial ?_ rfl
  simp only [Tryd.ntmps21, List.size_toArray, List.length_cons, List.length_nil, Nat.reduceAdd, Nat.reduceSub, Array.replicate_succ, Array.replicate_zero, List.push_toArray, List.append_toArray, List.nil_append, List.cons_append]
  have b0 : Boxed (((w.alloc (.cells #[.string a1] 9)).alloc (.cells #[.string ⟨#[]⟩] 9)).alloc (.cells #[.bool false] 4)) w.heap.size 9 (.string a1) := ((Boxed.new w 9 (.string a1)).alloc _).alloc _
  have b1 : Boxed (((w.alloc (.cells #[.string a1] 9)).alloc (.cells #[.string ⟨#[]⟩] 9)).alloc (.cells #[.bool false] 4)) (w.heap.size + 1) 9 (.string ⟨#[]⟩) := by
    have := (Boxed.new (w.alloc (.cells #[.string a1] 9)) 9 (.string ⟨#[]⟩)).alloc (.cells #[.bool false] 4)
    simpa using this
  have b2 : Boxed (((w.alloc (.cells #[.string a1] 9)).alloc (.cells #[.string ⟨#[]⟩] 9)).alloc (.cells #[.bool false] 4)) (w.heap.size + 1 + 1) 4 (.bool false) := by
    have := Boxed.new ((w.alloc (.cells #[.string a1] 9)).alloc (.cells #[.string ⟨#[]⟩] 9)) 4 (.bool false)
    simpa using this
  have hsz3 : (((w.alloc (.cells #[.string a1] 9)).alloc (.cells #[.string ⟨#[]⟩] 9)).alloc (.cells #[.bool false] 4)).heap.size = w.heap.size + 3 := by simp
  gi_wp2_with fail
  obtain ⟨w3, hw3⟩ : ∃ W, (((w.alloc (.cells #[.string a1] 9)).alloc (.cells #[.string ⟨#[]⟩] 9)).alloc (.cells #[.bool false] 4)) = W := ⟨_, rfl⟩
  have hw3' := hw3
  first
  | rw [hw3] at HB3 hr3 b0 b1 b2 hsz3 ⊢
  | (rw [hw3] at HB3 hr3 b0 b1 b2 hsz3; change _ at hw3'; trace_state; fail)
  clear hw3 hw3'
  refine ⟨trivial, (arg_Find.back_in Fence.wide 5 trivial rfl A0 l0.length c0 w3).mono ?_⟩
  rintro e w4 ⟨rfl, rfl⟩
  have bN := Boxed.new w3 37 (.slice A0 l0.length c0)
  have hB4 : Below w.heap.size w (w3.alloc (.cells #[.slice A0 l0.length c0] 37)) := HB3.alloc (by omega) _
  have hC4 : arg_Find.Cells (w3.heap.size + 1) (w3.alloc (.cells #[.slice A0 l0.length c0] 37)) A0 l0 := arg_Find.Cells.of (Kd.C_below hr3 ((Below.refl _ w3).alloc (Nat.le_refl _) _)) (by simp)
  have b04 := b0.alloc (.cells #[.slice A0 l0.length c0] 37)
  have b14 := b1.alloc (.cells #[.slice A0 l0.length c0] 37)
  have b24 := b2.alloc (.cells #[.slice A0 l0.length c0] 37)
  have hsz4 : (w3.alloc (.cells #[.slice A0 l0.length c0] 37)).heap.size = w3.heap.size + 1 := by simp
  have HSZ := Aside0.mk hsz3
  have HSZ4 := Aside0.mk hsz4
  clear hsz3 hsz4
  gi_wp2
  have hsz3 := HSZ.out
  have hsz4 := HSZ4.out
  have hl0 : l0.length ≤ 9223372036854775807 := hr0.2.1
  refine wpIn_rangeFunc_ownH rfl (by omega) (gf := 49) (lb := #[.pointer (some ⟨w3.heap.size, 0, none⟩)]) rfl trivial (enters_of Tryd.func49 (by kernel_rfl) rfl)
    (arg_Find.back_stops Fence.wide 5 trivial rfl (by omega) w3.heap.size (w3.heap.size + 1) A0 c0 l0 hl0 _ (by omega) (by simp) bN.cell hC4) belowK_t (belowK_b (by simp)) (Below.refl _ _) (fun _ => rfl)
    (fun pre W => ((Boxed W w.heap.size 9 (.string a1) ∧ (Boxed W (w.heap.size + 1) 9 (.string ⟨#[]⟩) ∧ Boxed W (w.heap.size + 1 + 1) 4 (.bool false))) ∧ ((∀ i ∈ pre, ¬ arg_Find.hit l0 a1 i) ∧ Boxed W w3.heap.size 37 (.slice A0 l0.length c0))) ∧ Below w.heap.size w W)
    (fun c pre W => (c = .ret ∧ ∃ ini j, pre = ini ++ [j] ∧ (∀ i ∈ ini, ¬ arg_Find.hit l0 a1 i) ∧ arg_Find.hit l0 a1 j ∧ Boxed W (w.heap.size + 1) 9 (.string (rd_T60 l0 j).f1) ∧ Boxed W (w.heap.size + 1 + 1) 4 (.bool true)) ∧ Below w.heap.size w W)
    (OwnFrom.and (OwnFrom.and (OwnFrom.and (Own.from (boxed_own _ _ _) _) (OwnFrom.and (Own.from (boxed_own _ _ _) _) (Own.from (boxed_own _ _ _) _))) (OwnFrom.and (ownFrom_pure _ _) (Own.from (boxed_own _ _ _) _))) (ownFrom_below (Nat.le_refl _) (by simp; omega)))
    (fun c => OwnFrom.and (Own.from (fun s A B row hs hg hr => by obtain ⟨hc, ini, j, e1, e2, e3, b1, b2⟩ := hs; exact ⟨hc, ini, j, e1, e2, e3, boxed_own (w.heap.size + 1) 9 (fun (_ : Unit) => Value.string (rd_T60 l0 j).f1) () A B row b1 hg hr, boxed_own (w.heap.size + 1 + 1) 4 (fun (_ : Unit) => Value.bool true) () A B row b2 hg hr⟩) _) (ownFrom_below (Nat.le_refl _) (by simp; omega)))
    ⟨⟨⟨b04, b14, b24⟩, by simp, bN⟩, hB4⟩
    (fun x a' W => ∃ Bx, w3.heap.size < Bx ∧ arg_Find.Blk W Bx 60 #[.string (rd_T60 l0 x).f0, .string (rd_T60 l0 x).f1] ∧ a' = { tmps := #[.slice A0 l0.length c0, .string a1, undef, .pointer (some ⟨w.heap.size, 0, none⟩), .pointer (some ⟨w.heap.size + 1, 0, none⟩), .pointer (some ⟨w.heap.size + 1 + 1, 0, none⟩), undef, .pointer (some ⟨Bx, 0, none⟩), .slice A0 l0.length c0, .func (.func 49) #[] #[.pointer (some ⟨w3.heap.size, 0, none⟩)], .int .i64 (x : Int), .agg #[.string (rd_T60 l0 x).f0, .string (rd_T60 l0 x).f1], undef, undef, undef, undef, undef, undef], defers := [] })
    (fun x a' _ X Y row hs hg hr => by obtain ⟨Bx, h1, h2, h3⟩ := hs; exact ⟨Bx, h1, arg_Find.Blk.own Bx 60 (fun (_ : Unit) => #[.string (rd_T60 l0 x).f0, .string (rd_T60 l0 x).f1]) () X Y row h2 hg (fun r e => (hr r e).2), h3⟩)
    ?assign ?body ?done ?stop
  case assign =>
    rintro l pre x W K ⟨⟨⟨bS1, bR1, bO1⟩, hp, bN1⟩, hB1⟩ hK
    dsimp only [arg_Find.enc]
    have HS3 := Aside0.mk hsz3
    have HS4 := Aside0.mk hsz4
    clear hsz3 hsz4
    gi_wp2
    have hsz3 := HS3.out
    have hsz4 := HS4.out
    exact hK _ _ ((KeepsOthers.alloc _ _).from _) ((Below.refl _ W).alloc (by have := bN1.lt; omega) _) ⟨⟨⟨bS1.alloc _, bR1.alloc _, bO1.alloc _⟩, hp, bN1.alloc _⟩, hB1.alloc hB1.size _⟩ ⟨W.heap.size, bN1.lt, arg_Find.Blk.new W 60 _, rfl⟩
  case body =>
    rintro l pre x a' W hl ⟨r, hr⟩ ⟨⟨⟨bS1, bR1, bO1⟩, hp, bN1⟩, hB1⟩ ⟨Bx, hBx, bX, rfl⟩ hlt
    have hx0 : W.cell? ⟨Bx, 0, none⟩ = some (.string (rd_T60 l0 x).f0) := bX.cell 0
    have hx1 : W.cell? ⟨Bx, 1, none⟩ = some (.string (rd_T60 l0 x).f1) := bX.cell 1
    have hcS := bS1.cell
    by_cases e1 : (rd_T60 l0 x).f0.toList = a1.toList
    · have e1b : ((rd_T60 l0 x).f0.toList == a1.toList) = true := beq_iff_eq.mpr e1
      have hR0 : W.cell? ⟨w.heap.size + 1, 0, none⟩ = some (.string ⟨#[]⟩) := bR1.cell
      have fR0 := bR1.frozen
      have cO' := bO1.cell
      have fO' := bO1.frozen
      have E1 := Aside0.mk e1
      clear e1
      gi_wp2
      refine ⟨((KeepsOthers.setCell _ _ _).from _).trans ((KeepsOthers.setCell _ _ _).from _), ⟨rfl, pre, x, rfl, hp, E1.out, ?_, ?_⟩, ?_⟩
      · exact (show arg_Find.Blk _ (w.heap.size + 1) 9 #[.string (rd_T60 l0 x).f1] from ((show arg_Find.Blk W (w.heap.size + 1) 9 #[.string ⟨#[]⟩] from bR1).set 0 _).other ⟨w.heap.size + 1 + 1, 0, none⟩ (by simp) _)
      · exact (show arg_Find.Blk _ (w.heap.size + 1 + 1) 4 #[.bool true] from ((show arg_Find.Blk W (w.heap.size + 1 + 1) 4 #[.bool false] from bO1).other ⟨w.heap.size + 1, 0, none⟩ (by simp) _).set 0 _)
      · exact (hB1.setCell (p := ⟨w.heap.size + 1, 0, none⟩) (by simp) _).setCell (p := ⟨w.heap.size + 1 + 1, 0, none⟩) (by simp; omega) _
    · have e1b : ((rd_T60 l0 x).f0.toList == a1.toList) = false := beq_eq_false_iff_ne.mpr e1
      have E1 := Aside0.mk e1
      clear e1
      gi_wp2
      exact ⟨KeepsFrom.refl _ _, Below.refl _ _, ⟨⟨⟨bS1, bR1, bO1⟩, fun i hi => (List.mem_append.1 hi).elim (hp i) (fun e => by simp at e; subst e; exact E1.out), bN1⟩, hB1⟩⟩
  case done =>
    rintro D ys W hD rfl ⟨⟨⟨bS1, bR1, bO1⟩, hp, bN1⟩, hB1⟩ hK
    have hR0 : W.cell? ⟨w.heap.size + 1, 0, none⟩ = some (.string ⟨#[]⟩) := bR1.cell
    have fR0 := bR1.frozen
    have cO' := bO1.cell
    have fO' := bO1.frozen
    rw [arg_Find.g_skip l0 a1 l0.length (fun i hi => hp i (arg_Find.mem_bk.2 ⟨Nat.zero_le _, hi⟩))] at h2
    simp only [Prod.mk.injEq] at h2
    obtain ⟨rfl, rfl⟩ := h2
    gi_wp2
    have hK' := (KeepsOthers.setCell _ ⟨w.heap.size + 1 + 1, 0, none⟩ (.bool false)).same D _ ((KeepsOthers.setCell W ⟨w.heap.size + 1, 0, none⟩ (.string ⟨#[]⟩)).same D _ hK rfl) rfl
    refine ⟨by simp, .inl ⟨_, _, rfl, run_takeDeferred hK', ?_⟩⟩
    have bR7 : arg_Find.Blk _ (w.heap.size + 1) 9 #[.string ⟨#[]⟩] := ((show arg_Find.Blk W (w.heap.size + 1) 9 #[.string ⟨#[]⟩] from bR1).set 0 (.string ⟨#[]⟩)).other ⟨w.heap.size + 1 + 1, 0, none⟩ (by simp) (.bool false)
    have bO7 : arg_Find.Blk _ (w.heap.size + 1 + 1) 4 #[.bool false] := ((show arg_Find.Blk W (w.heap.size + 1 + 1) 4 #[.bool false] from bO1).other ⟨w.heap.size + 1, 0, none⟩ (by simp) (.string ⟨#[]⟩)).set 0 (.bool false)
    have bR8 := arg_Find.Blk.own (w.heap.size + 1) 9 (fun (_ : Unit) => _) () _ _ _ bR7 (grownBy_putObj' _ D (.deferred none)) (fun r e => by cases e; exact ⟨_, hK', rfl⟩)
    have bO8 := arg_Find.Blk.own (w.heap.size + 1 + 1) 4 (fun (_ : Unit) => _) () _ _ _ bO7 (grownBy_putObj' _ D (.deferred none)) (fun r e => by cases e; exact ⟨_, hK', rfl⟩)
    have q0 := bR8.cell 0
    have q3 := bO8.cell 0
    (try simp only [Array.setIfInBounds, Array.set, List.set_cons_zero, List.size_toArray, List.length_cons, List.length_nil] at q0 q3)
    refine ⟨.tuple #[.string ⟨#[]⟩, .bool false], ?_, rfl, ?_⟩
    · simp [results, Tryd.f21, go_sem, q0, q3]
    · exact ((hB1.setCell (p := ⟨w.heap.size + 1, 0, none⟩) (by simp) _).setCell (p := ⟨w.heap.size + 1 + 1, 0, none⟩) (by simp; omega) _).trans (belowK_b (w := w) (Nat.le_refl _) _ D _ _ (by simp at hD; omega) hK' rfl rfl)
  case stop =>
    rintro D c pre W hD ⟨kk, hkk, rfl⟩ ⟨⟨rfl, ini, j, e1, e2, e3, bR1, bO1⟩, hB1⟩ hK
    rw [← arg_Find.bk_step _ _ hkk] at e1
    obtain ⟨rfl, e5⟩ := List.append_inj' e1 rfl
    obtain rfl : kk = j := by simpa using e5
    rw [arg_Find.g_hit l0 a1 kk e3 l0.length hkk (fun i h1 h2 => e2 i (arg_Find.mem_bk.2 ⟨h1, h2⟩))] at h2
    simp only [Prod.mk.injEq] at h2
    obtain ⟨rfl, rfl⟩ := h2
    gi_wp2
    refine ⟨by simp, .inl ⟨_, _, rfl, run_takeDeferred hK, ?_⟩⟩
    have bR8 := arg_Find.Blk.own (w.heap.size + 1) 9 (fun (_ : Unit) => _) () _ _ _ (show arg_Find.Blk W (w.heap.size + 1) 9 #[.string (rd_T60 l0 kk).f1] from bR1) (grownBy_putObj' _ D (.deferred none)) (fun r e => by cases e; exact ⟨_, hK, rfl⟩)
    have bO8 := arg_Find.Blk.own (w.heap.size + 1 + 1) 4 (fun (_ : Unit) => _) () _ _ _ (show arg_Find.Blk W (w.heap.size + 1 + 1) 4 #[.bool true] from bO1) (grownBy_putObj' _ D (.deferred none)) (fun r e => by cases e; exact ⟨_, hK, rfl⟩)
    have q0 := bR8.cell 0
    have q3 := bO8.cell 0
    refine ⟨.tuple #[.string (rd_T60 l0 kk).f1, .bool true], ?_, rfl, ?_⟩
    · simp [results, Tryd.f21, go_sem, q0, q3]
    · exact hB1.trans (belowK_b (w := w) (Nat.le_refl _) _ D _ _ (by simp at hD; omega) hK rfl rfl)

end Go.Proofs.YtbmhfnncagncmaaDoor.P
