/- Laid by a program of this session's own (wip/wprint.py, over the kit's print.py): functions of the given program as plain Lean functions, and that the program's calls come to their answers. -/
import Derived.Test.YtnoilinjlelpaaaPx0
import Derived.Test.YtnoilinjlelpaaaPx4
import Derived.RangeFuncNested
import Derived.RangeFuncBox
import Derived.RangeFuncBound
import Derived.RangeFuncCalls
import Derived.RangeFuncLeaves
import Derived.OwnWalkIn
import Derived.TacticsInMore
import Derived.LoopNIn
import Derived.LoopIn
import Derived.Shelf.Abstract
namespace Go.Proofs.Ytnoilinjlelpaaa.P
open Go.RowKit Go.Proofs.YtnoilinjlelpaaaW.PrintWords Go.Proofs.YtnoilinjlelpaaaW.PrintLast Go.Proofs.YtnoilinjlelpaaaW.PrintMore
attribute [local go_sem] max2_int min2_int max_two min_two max_three min_three max_four min_four   -- for this text's walks alone
set_option linter.unusedVariables false
set_option linter.unusedSimpArgs false

/-! ### region_Last: function 24 -/
attribute [local go_sem] Oper.semAt_some max2_int min2_int max_two min_two
/-- The indexes that have come, from the end. -/
def region_Last.bk (n k : Nat) : List Nat := (List.range' k (n - k)).reverse
theorem region_Last.bk_top (n : Nat) : region_Last.bk n n = [] := by simp [region_Last.bk]
theorem region_Last.bk_step (n k : Nat) (h : k < n) : region_Last.bk n (k + 1) ++ [k] = region_Last.bk n k := by
  unfold region_Last.bk
  rw [show n - k = (n - (k + 1)) + 1 from by omega, List.range'_succ, List.reverse_cons]
theorem region_Last.bk_length (n k : Nat) : (region_Last.bk n k).length = n - k := by simp [region_Last.bk]
/-- The cells of the elements, below n₀. -/
def region_Last.Cells (n₀ : Nat) (W : World) (A : Option Addr) (zs : List S33) : Prop :=
  ∀ i : Int, 0 ≤ i → i < (zs.length : Int) → ∃ ad, A = some ad ∧ (ad.add (i.toNat * 3)).block < n₀ ∧ W.cell? (ad.add (i.toNat * 3)) = some (.int .i64 (rd_T33 zs i).f0) ∧ W.cell? ⟨(ad.add (i.toNat * 3)).block, (ad.add (i.toNat * 3)).off + 1, none⟩ = some (.int .i64 (rd_T33 zs i).f1) ∧ W.cell? ⟨(ad.add (i.toNat * 3)).block, (ad.add (i.toNat * 3)).off + 2, none⟩ = some (.int .u8 (rd_T33 zs i).f2)
theorem region_Last.Cells.below {n₀ : Nat} {W W' : World} {A : Option Addr} {zs : List S33} (h : region_Last.Cells n₀ W A zs) (hb : Below n₀ W W') : region_Last.Cells n₀ W' A zs := by
  intro i h0 h1
  obtain ⟨ad, e, hlt, c0, c1, c2⟩ := h i h0 h1
  exact ⟨ad, e, hlt, (hb.cell hlt).trans c0, (hb.cell (p := ⟨(ad.add (i.toNat * 3)).block, (ad.add (i.toNat * 3)).off + 1, none⟩) hlt).trans c1, (hb.cell (p := ⟨(ad.add (i.toNat * 3)).block, (ad.add (i.toNat * 3)).off + 2, none⟩) hlt).trans c2⟩
theorem region_Last.Cells.of {W : World} {A : Option Addr} {zs : List S33} {n₀ : Nat} (h : Kd.C k33 W A zs.length zs) (hn : W.heap.size ≤ n₀) : region_Last.Cells n₀ W A zs := by
  intro i h0 h1
  obtain ⟨ad, e, c0, c1, c2⟩ := at_T33 h i h0 h1
  exact ⟨ad, e, Nat.lt_of_lt_of_le ((World.block_lt_of_cell? W _ c0 : (ad.add (i.toNat * 3)).block < _)) hn, c0, c1, c2⟩
def region_Last.enc (zs : List S33) (i : Nat) : Array Value := #[.int .i64 (i : Int), .agg #[.int .i64 (rd_T33 zs i).f0, .int .i64 (rd_T33 zs i).f1, .int .u8 (rd_T33 zs i).f2]]

set_option maxRecDepth 100000 in
set_option maxHeartbeats 2000000 in
theorem region_Last.back1_in (F : Fence) (n : Nat) (hf : F.fn 66) (hro : F.round = none) (hn : 1 ≤ n) (l Bs n₀ : Nat) (A : Option Addr) (cap : Nat) (zs : List S33) (hlen : zs.length ≤ 9223372036854775807) (hB : Bs < n₀) (J Jx : List Nat → World → Prop)
    (hY : ∀ pre x W, J pre W → pre.length < zs.length → YieldAt F (n - 1) Try.prog l (region_Last.enc zs x) W fun e W' =>
      (e = .returned (.bool true) ∧ J (pre ++ [x]) W' ∧ Below n₀ W W') ∨ (e = .returned (.bool false) ∧ Jx (pre ++ [x]) W'))
    (W : World) (hBs : W.cell? ⟨Bs, 0, none⟩ = some (.slice A zs.length cap)) (hc : region_Last.Cells n₀ W A zs) (h0 : J [] W) :
    CallsIn F n Try.prog 66 #[.func (.yield l) #[] #[], .pointer (some ⟨Bs, 0, none⟩)] W fun e W' => (∃ v, e = .returned v) ∧
      ((∃ ys, ys = region_Last.bk zs.length 0 ∧ J ys W') ∨ (∃ pre, (∃ k, k < zs.length ∧ pre = region_Last.bk zs.length k) ∧ Jx pre W')) := by
  refine callsIn_of_wp Try.func66 rfl hf ?_ hro
  simp only [Try.ntmps66, List.size_toArray, List.length_cons, List.length_nil, Nat.reduceAdd, Nat.reduceSub, Array.replicate_succ, Array.replicate_zero, List.push_toArray, List.append_toArray, List.nil_append, List.cons_append]
  have hlen' : (zs.length : Int) ≤ 9223372036854775807 := by omega
  have hlen0 : 0 ≤ (zs.length : Int) := by omega
  gi_wp2
  gi_loopw [3] (fun i wr => ∃ j : Int, -1 ≤ j ∧ j < (zs.length : Int) ∧ i = .int .i64 j ∧ J (region_Last.bk zs.length (j + 1).toNat) wr ∧ Below n₀ W wr)
    (fun i _ => (intOf i + 1).toNat)
  case atStart =>
    refine ⟨(zs.length : Int) - 1, by omega, by omega, by go_num, ?_, Below.refl _ _⟩
    rw [show ((zs.length : Int) - 1 + 1).toNat = zs.length from by omega, region_Last.bk_top]
    exact h0
  case round =>
    obtain ⟨j, hj0, hj1, rfl, hJs, hnx⟩ := hrel
    have hcB : wr.cell? ⟨Bs, 0, none⟩ = some (.slice A zs.length cap) := (hnx.cell (p := ⟨Bs, 0, none⟩) hB).trans hBs
    by_cases hge : 0 ≤ j
    · obtain ⟨fn, tmps, assign, body, hy, hR⟩ := hY _ j.toNat wr hJs (by rw [region_Last.bk_length]; omega)
      obtain ⟨ad, e, hlt, c0, c1, c2⟩ := hc.below hnx j hge hj1
      subst e
      simp only [region_Last.enc, show ((j.toNat : Nat) : Int) = j from by omega] at hy hR
      have p1 := eq_true hge
      have p2 := eq_true hj1
      gi_wp2
      refine hR.mono ?_
      rintro e W3 (⟨rfl, hJ3, hk3⟩ | ⟨rfl, hJx3⟩)
      · gi_wp2
        go_roundw
        case rel =>
          refine ⟨j - 1, by omega, by omega, by go_num, ?_, hnx.trans hk3⟩
          rw [show (j - 1 + 1).toNat = j.toNat from by omega]
          rw [show (j + 1).toNat = j.toNat + 1 from by omega, region_Last.bk_step _ _ (by omega)] at hJ3
          exact hJ3
        case measure => simp [intOf]; omega
      · gi_wp2
        refine bodyPost_ret (results_none rfl _ _ _) rfl ?_
        rw [show (j + 1).toNat = j.toNat + 1 from by omega, region_Last.bk_step _ _ (by omega)] at hJx3
        exact ⟨⟨_, rfl⟩, .inr ⟨_, ⟨j.toNat, by omega, rfl⟩, hJx3⟩⟩
    · obtain rfl : j = -1 := by omega
      gi_wp2
      go_end0
      exact ⟨⟨_, rfl⟩, .inl hJs⟩
/-- The last one below a place, of those ahead of an index. -/
def region_Last.g (l : List S33) (st tt : Int) : Nat → Int × Int × Int × Bool
  | 0 => (0, 0, 0, false)
  | i + 1 => if (rd_T33 l i).f2 = st ∧ (rd_T33 l i).f0 < tt then ((rd_T33 l i).f0, mn (rd_T33 l i).f1 (wrap64 (tt - (rd_T33 l i).f0)), st, true) else region_Last.g l st tt i
def region_Last.f (k : Nat) (l0 : List S33) (a1 : Int) (a2 : Int) : Option (Int × Int × Int × Bool) := (region_May.f k l0).bind fun b => some (if b = true then region_Last.g l0 a1 a2 l0.length else (0, 0, 0, false))
theorem region_Last.mono : ∀ a0 a1 a2 k, LeO (region_Last.f k a0 a1 a2) (region_Last.f (k + 1) a0 a1 a2) := by
  intro a0 a1 a2 k
  unfold region_Last.f
  exact LeO.bind (region_May.mono _ _) (fun _ => LeO.refl _)
theorem region_Last.g_skip (l : List S33) (st tt : Int) : ∀ n, (∀ i : Nat, i < n → ¬ ((rd_T33 l i).f2 = st ∧ (rd_T33 l i).f0 < tt)) → region_Last.g l st tt n = (0, 0, 0, false)
  | 0, _ => rfl
  | n + 1, h => by
    rw [region_Last.g, if_neg (h n (by omega))]
    exact region_Last.g_skip l st tt n (fun i hi => h i (by omega))
theorem region_Last.g_hit (l : List S33) (st tt : Int) (j : Nat) (hj : (rd_T33 l j).f2 = st ∧ (rd_T33 l j).f0 < tt) : ∀ n, j < n → (∀ i : Nat, j < i → i < n → ¬ ((rd_T33 l i).f2 = st ∧ (rd_T33 l i).f0 < tt)) → region_Last.g l st tt n = ((rd_T33 l j).f0, mn (rd_T33 l j).f1 (wrap64 (tt - (rd_T33 l j).f0)), st, true)
  | n + 1, h, hn => by
    rw [region_Last.g]
    by_cases e : n = j
    · subst e; rw [if_pos hj]
    · rw [if_neg (hn n (by omega) (by omega))]
      exact region_Last.g_hit l st tt j hj n (by omega) (fun i h1 h2 => hn i h1 (by omega))
theorem region_Last.mem_bk {n k i : Nat} : i ∈ region_Last.bk n k ↔ k ≤ i ∧ i < n := by
  simp only [region_Last.bk, List.mem_reverse, List.mem_range'_1]; omega

set_option maxHeartbeats 1000000 in
theorem region_Last.back_in (F : Fence) (n : Nat) (hf : F.fn 49) (hro : F.round = none) (A : Option Addr) (len cap : Nat) (w : World) :
    CallsIn F n Try.prog 49 #[.slice A len cap] w fun e w' => e = .returned (.func (.func 66) #[] #[.pointer (some ⟨w.heap.size, 0, none⟩)]) ∧ w' = w.alloc (.cells #[.slice A len cap] 24) := by
  refine callsIn_of_wp Try.func49 rfl hf ?_ hro
  simp only [Try.ntmps49, List.size_toArray, List.length_cons, List.length_nil, Nat.reduceAdd, Nat.reduceSub, Array.replicate_succ, Array.replicate_zero, List.push_toArray, List.append_toArray, List.nil_append, List.cons_append]
  gi_wp2
  go_ret
  exact ⟨rfl, rfl⟩

theorem region_Last.back_stops (F : Fence) (n : Nat) (hf : F.fn 66) (hro : F.round = none) (hn : 1 ≤ n) (Bs n₀ : Nat) (A : Option Addr) (cap : Nat) (zs : List S33) (hlen : zs.length ≤ 9223372036854775807) (w : World) (hB : Bs < n₀) (hn₀ : n₀ ≤ w.heap.size)
    (hc : w.cell? ⟨Bs, 0, none⟩ = some (.slice A zs.length cap)) (hC : region_Last.Cells n₀ w A zs) :
    SeqStopsK F n Try.prog 66 #[.pointer (some ⟨Bs, 0, none⟩)] (region_Last.enc zs) (Below n₀) (fun ys => ys = region_Last.bk zs.length 0) (fun pre => ∃ k, k < zs.length ∧ pre = region_Last.bk zs.length k) zs.length w := fun l J Jx W hW _ _ hY h0 =>
  region_Last.back1_in F n hf hro hn l Bs n₀ A cap zs hlen hB J Jx hY W ((hW.cell (p := ⟨Bs, 0, none⟩) (Nat.lt_of_lt_of_le hB hn₀)).trans hc) (hC.below (hW.mono hn₀)) h0

def region_Last.hit (l : List S33) (st tt : Int) (i : Nat) : Prop := (rd_T33 l i).f2 = st ∧ (rd_T33 l i).f0 < tt
def region_Last.found (l : List S33) (st tt : Int) (pre : List Nat) : Prop := ∃ ini j, pre = ini ++ [j] ∧ (∀ i ∈ ini, ¬ region_Last.hit l st tt i) ∧ region_Last.hit l st tt j
/-- A block of cells. -/
def region_Last.Blk (W : World) (B : Nat) (t : TypeId) (cs : Array Value) : Prop := W.heap[B]? = some (.cells cs t (0, 0))
theorem region_Last.Blk.lt {W : World} {B : Nat} {t : TypeId} {cs : Array Value} (h : region_Last.Blk W B t cs) : B < W.heap.size := (Array.getElem?_eq_some_iff.1 h).1
theorem region_Last.Blk.own {β : Type} (B : Nat) (t : TypeId) (f : β → Array Value) : Own (fun s W => region_Last.Blk W B t (f s)) := fun s X Y row hs hg hrow =>
  (hg.block B (region_Last.Blk.lt hs) (fun e' => by obtain ⟨o, ho, hc⟩ := hrow B e'.symm; rw [show X.heap[B]? = _ from hs] at ho; cases ho; cases hc)).trans hs
theorem region_Last.Blk.cell {W : World} {B : Nat} {t : TypeId} {cs : Array Value} (h : region_Last.Blk W B t cs) (j : Nat) : W.cell? ⟨B, j, none⟩ = cs[j]? := by simp [World.cell?, show W.heap[B]? = _ from h]
theorem region_Last.Blk.frozen {W : World} {B : Nat} {t : TypeId} {cs : Array Value} (h : region_Last.Blk W B t cs) (j : Nat) : W.frozen? ⟨B, j, none⟩ = false := by simp [World.frozen?, show W.heap[B]? = _ from h]
theorem region_Last.Blk.new (W : World) (t : TypeId) (cs : Array Value) : region_Last.Blk (W.alloc (.cells cs t)) W.heap.size t cs := World.alloc_heap_new W _
theorem region_Last.Blk.alloc {W : World} {B : Nat} {t : TypeId} {cs : Array Value} (h : region_Last.Blk W B t cs) (o : Obj) : region_Last.Blk (W.alloc o) B t cs := (Below.heap_alloc W o B h.lt).trans h
theorem region_Last.Blk.other {W : World} {B : Nat} {t : TypeId} {cs : Array Value} (h : region_Last.Blk W B t cs) (p : Addr) (hne : B ≠ p.block) (u : Value) : region_Last.Blk (W.setCell p u) B t cs := (Below.heap_setCell W p u B hne).trans h
theorem region_Last.Blk.set {W : World} {B : Nat} {t : TypeId} {cs : Array Value} (h : region_Last.Blk W B t cs) (j : Nat) (u : Value) : region_Last.Blk (W.setCell ⟨B, j, none⟩ u) B t (cs.setIfInBounds j u) := by
  have h1 : W.heap[B]? = some (.cells cs t (0, 0)) := h
  obtain ⟨hlt, hk⟩ := Array.getElem?_eq_some_iff.1 h1
  show (W.heap.modify B _)[B]? = _
  rw [Array.getElem?_eq_getElem (by rw [Array.size_modify]; exact hlt), Array.getElem_modify_self, hk]
  rfl
/-- Our four boxes. -/
def region_Last.Own4 (B : Nat) (a1 a2 : Int) (W : World) : Prop :=
  Boxed W B 5 (.int .u8 a1) ∧ Boxed W (B + 1) 3 (.int .i64 a2) ∧ W.heap[B + 2]? = some (.cells #[.int .i64 0, .int .i64 0, .int .u8 0] 33 (0, 0)) ∧ Boxed W (B + 3) 4 (.bool false)
theorem region_Last.Own4.keep {B : Nat} {a1 a2 : Int} {W W' : World} (h : region_Last.Own4 B a1 a2 W) (hb : Below W.heap.size W W') (hB : B + 3 < W.heap.size) : region_Last.Own4 B a1 a2 W' :=
  ⟨(hb.block B (by omega)).trans h.1, (hb.block (B + 1) (by omega)).trans h.2.1, (hb.block (B + 2) (by omega)).trans h.2.2.1, (hb.block (B + 3) (by omega)).trans h.2.2.2⟩
theorem region_Last.cells_frozen {W : World} {B : Nat} {cs : Array Value} {t : TypeId} (h : W.heap[B]? = some (.cells cs t (0, 0))) (j : Nat) : W.frozen? ⟨B, j, none⟩ = false := by simp [World.frozen?, h]
set_option maxRecDepth 100000 in
set_option maxHeartbeats 4000000 in
theorem region_Last.calls (k : Nat) (A0 : Option Addr) (c0 : Nat) (l0 : List (S33)) (a1 : Int) (a2 : Int) (r1 : Int) (r2 : Int) (r3 : Int) (r4 : Bool) (w : World) (hr0 : Kd.C k33 w A0 l0.length l0) (hc0 : l0.length ≤ c0) (h : region_Last.f k l0 a1 a2 = some (r1, r2, r3, r4)) :
    Calls Try.prog 24 #[.slice A0 l0.length c0, .int .u8 a1, .int .i64 a2] w fun e w' => e = .returned (.tuple #[.agg #[.int .i64 r1, .int .i64 r2, .int .u8 r3], .bool r4]) ∧ Below w.heap.size w w' := by
  have h' := h
  unfold region_Last.f at h'
  obtain ⟨b, hM, h1⟩ := Option.bind_eq_some_iff.mp h'
  have h2 := Option.some.inj h1
  clear h h' h1
  have HB4 : Below w.heap.size w ((((w.alloc (.cells #[.int .u8 a1] 5)).alloc (.cells #[.int .i64 a2] 3)).alloc (.cells #[.int .i64 0, .int .i64 0, .int .u8 0] 33)).alloc (.cells #[.bool false] 4)) := ((((Below.refl _ w).alloc (Nat.le_refl _) _).alloc (by simp) _).alloc (by simp; omega) _).alloc (by simp; omega) _
  have hr4 := Kd.C_below hr0 HB4
  refine (callsIn_wide (n := 6)).1 ?_
  refine callsIn_of_wp_marks Try.func24 rfl trivial ?_ rfl
  simp only [Try.ntmps24, List.size_toArray, List.length_cons, List.length_nil, Nat.reduceAdd, Nat.reduceSub, Array.replicate_succ, Array.replicate_zero, List.push_toArray, List.append_toArray, List.nil_append, List.cons_append]
  gi_wp2_with fail
  refine ⟨trivial, (callsIn_wide.2 (region_May.calls k A0 c0 l0 b _ hr4 hc0 hM)).mono ?_⟩
  rintro e w5 ⟨rfl, hb5⟩
  have own0 : region_Last.Own4 w.heap.size a1 a2 ((((w.alloc (.cells #[.int .u8 a1] 5)).alloc (.cells #[.int .i64 a2] 3)).alloc (.cells #[.int .i64 0, .int .i64 0, .int .u8 0] 33)).alloc (.cells #[.bool false] 4)) := by
    refine ⟨(((Boxed.new w 5 _).alloc _).alloc _).alloc _, ?_, ?_, ?_⟩
    · have := (((Boxed.new (w.alloc (.cells #[.int .u8 a1] 5)) 3 (.int .i64 a2)).alloc (.cells #[.int .i64 0, .int .i64 0, .int .u8 0] 33)).alloc (.cells #[.bool false] 4))
      simpa using this
    · have h1 := World.alloc_heap_new ((w.alloc (.cells #[.int .u8 a1] 5)).alloc (.cells #[.int .i64 a2] 3)) (.cells #[.int .i64 0, .int .i64 0, .int .u8 0] 33)
      have h2 := Below.heap_alloc (((w.alloc (.cells #[.int .u8 a1] 5)).alloc (.cells #[.int .i64 a2] 3)).alloc (.cells #[.int .i64 0, .int .i64 0, .int .u8 0] 33)) (.cells #[.bool false] 4) (w.heap.size + 2) (by simp)
      rw [h2]
      simpa using h1
    · have := Boxed.new (((w.alloc (.cells #[.int .u8 a1] 5)).alloc (.cells #[.int .i64 a2] 3)).alloc (.cells #[.int .i64 0, .int .i64 0, .int .u8 0] 33)) 4 (.bool false)
      simpa using this
  have hsz4 : ((((w.alloc (.cells #[.int .u8 a1] 5)).alloc (.cells #[.int .i64 a2] 3)).alloc (.cells #[.int .i64 0, .int .i64 0, .int .u8 0] 33)).alloc (.cells #[.bool false] 4)).heap.size = w.heap.size + 4 := by simp
  obtain ⟨w4, hw4⟩ : ∃ w4, ((((w.alloc (.cells #[.int .u8 a1] 5)).alloc (.cells #[.int .i64 a2] 3)).alloc (.cells #[.int .i64 0, .int .i64 0, .int .u8 0] 33)).alloc (.cells #[.bool false] 4)) = w4 := ⟨_, rfl⟩
  rw [hw4] at own0 hsz4 hb5 HB4 hr4
  clear hw4
  have own5 : region_Last.Own4 w.heap.size a1 a2 w5 := region_Last.Own4.keep own0 hb5 (by omega)
  have hB5 : Below w.heap.size w w5 := HB4.trans (hb5.mono (by omega))
  have hr5 := Kd.C_below hr4 hb5
  have hsz5 : w.heap.size + 4 ≤ w5.heap.size := by have := hb5.size; omega
  obtain ⟨bS, bT, bR, bO⟩ := own5
  have fR := cells_frozen bR
  have cR0 : w5.cell? ⟨w.heap.size + 1 + 1, 0, none⟩ = some (.int .i64 0) := by simp [World.cell?, bR]
  have cR1 : w5.cell? ⟨w.heap.size + 1 + 1, 1, none⟩ = some (.int .i64 0) := by simp [World.cell?, bR]
  have cR2 : w5.cell? ⟨w.heap.size + 1 + 1, 2, none⟩ = some (.int .u8 0) := by simp [World.cell?, bR]
  have cO : w5.cell? ⟨w.heap.size + 1 + 1 + 1, 0, none⟩ = some (.bool false) := bO.cell
  have fO : w5.frozen? ⟨w.heap.size + 1 + 1 + 1, 0, none⟩ = false := bO.frozen
  have fR0 : w5.frozen? ⟨w.heap.size + 1 + 1, 0, none⟩ = false := fR 0
  have fR1 : w5.frozen? ⟨w.heap.size + 1 + 1, 1, none⟩ = false := fR 1
  have fR2 : w5.frozen? ⟨w.heap.size + 1 + 1, 2, none⟩ = false := fR 2
  clear fR
  cases b with
  | false =>
    simp only [Bool.false_eq_true, if_false, Prod.mk.injEq] at h2
    obtain ⟨rfl, rfl, rfl, rfl⟩ := h2
    gi_wp2
    refine ⟨.tuple #[.agg #[.int .i64 0, .int .i64 0, .int .u8 0], .bool false], ?_, rfl, ?_⟩
    · simp [results, Try.f24, go_sem, cR0, cR1, cR2, cO]
    · exact (((hB5.setCell (p := ⟨w.heap.size + 1 + 1, 0, none⟩) (by simp; omega) _).setCell (p := ⟨w.heap.size + 1 + 1, 1, none⟩) (by simp; omega) _).setCell (p := ⟨w.heap.size + 1 + 1, 2, none⟩) (by simp; omega) _).setCell (p := ⟨w.heap.size + 1 + 1 + 1, 0, none⟩) (by simp; omega) _
  | true =>
    simp only [if_true] at h2
    gi_wp2_with fail
    refine ⟨trivial, (region_Last.back_in Fence.wide 5 trivial rfl A0 l0.length c0 w5).mono ?_⟩
    rintro e w6 ⟨rfl, rfl⟩
    have bN := Boxed.new w5 24 (.slice A0 l0.length c0)
    have hB6 : Below w.heap.size w (w5.alloc (.cells #[.slice A0 l0.length c0] 24)) := hB5.alloc (by omega) _
    have hC6 : region_Last.Cells (w5.heap.size + 1) (w5.alloc (.cells #[.slice A0 l0.length c0] 24)) A0 l0 := region_Last.Cells.of (Kd.C_below hr5 ((Below.refl _ w5).alloc (Nat.le_refl _) _)) (by simp)
    have bS6 := bS.alloc (.cells #[.slice A0 l0.length c0] 24)
    have bT6 := bT.alloc (.cells #[.slice A0 l0.length c0] 24)
    have bO6 := bO.alloc (.cells #[.slice A0 l0.length c0] 24)
    have bR6 : (w5.alloc (.cells #[.slice A0 l0.length c0] 24)).heap[w.heap.size + 2]? = some (.cells #[.int .i64 0, .int .i64 0, .int .u8 0] 33 (0, 0)) := (Below.heap_alloc w5 _ _ (by omega)).trans bR
    have hsz6 : (w5.alloc (.cells #[.slice A0 l0.length c0] 24)).heap.size = w5.heap.size + 1 := by simp
    gi_wp2
    have hl0 : l0.length ≤ 9223372036854775807 := hr0.2.1
    refine wpIn_rangeFunc_ownH rfl (by omega) (gf := 66) (lb := #[.pointer (some ⟨w5.heap.size, 0, none⟩)]) rfl trivial (enters_of Try.func66 (by kernel_rfl) rfl)
      (region_Last.back_stops Fence.wide 5 trivial rfl (by omega) w5.heap.size (w5.heap.size + 1) A0 c0 l0 hl0 _ (by omega) (by simp) bN.cell hC6) belowK_t (belowK_b (by simp)) (Below.refl _ _) (fun _ => rfl)
      (fun pre W => (((Boxed W w.heap.size 5 (.int .u8 a1) ∧ Boxed W (w.heap.size + 1) 3 (.int .i64 a2)) ∧ (region_Last.Blk W (w.heap.size + 1 + 1) 33 #[.int .i64 0, .int .i64 0, .int .u8 0] ∧ Boxed W (w.heap.size + 1 + 1 + 1) 4 (.bool false))) ∧ ((∀ i ∈ pre, ¬ region_Last.hit l0 a1 a2 i) ∧ Boxed W w5.heap.size 24 (.slice A0 l0.length c0))) ∧ Below w.heap.size w W)
      (fun c pre W => (c = .ret ∧ ∃ ini j, pre = ini ++ [j] ∧ (∀ i ∈ ini, ¬ region_Last.hit l0 a1 a2 i) ∧ region_Last.hit l0 a1 a2 j ∧ region_Last.Blk W (w.heap.size + 1 + 1) 33 #[.int .i64 (rd_T33 l0 j).f0, .int .i64 (mn (rd_T33 l0 j).f1 (wrap64 (a2 - (rd_T33 l0 j).f0))), .int .u8 a1] ∧ Boxed W (w.heap.size + 1 + 1 + 1) 4 (.bool true)) ∧ Below w.heap.size w W)
      (OwnFrom.and (OwnFrom.and (OwnFrom.and (OwnFrom.and (Own.from (boxed_own _ _ _) _) (Own.from (boxed_own _ _ _) _)) (OwnFrom.and (Own.from (region_Last.Blk.own _ _ _) _) (Own.from (boxed_own _ _ _) _))) (OwnFrom.and (ownFrom_pure _ _) (Own.from (boxed_own _ _ _) _))) (ownFrom_below (Nat.le_refl _) (by simp; omega)))
      (fun c => OwnFrom.and (Own.from (fun s A B row hs hg hr => by obtain ⟨hc, ini, j, e1, e2, e3, b1, b2⟩ := hs; exact ⟨hc, ini, j, e1, e2, e3, region_Last.Blk.own (w.heap.size + 1 + 1) 33 (fun (_ : Unit) => #[.int .i64 (rd_T33 l0 j).f0, .int .i64 (mn (rd_T33 l0 j).f1 (wrap64 (a2 - (rd_T33 l0 j).f0))), .int .u8 a1]) () A B row b1 hg hr, boxed_own (w.heap.size + 1 + 1 + 1) 4 (fun (_ : Unit) => Value.bool true) () A B row b2 hg hr⟩) _) (ownFrom_below (Nat.le_refl _) (by simp; omega)))
      ⟨⟨⟨⟨bS6, bT6⟩, bR6, bO6⟩, by simp, bN⟩, hB6⟩
      (fun x a' W => ∃ Bx, w5.heap.size < Bx ∧ region_Last.Blk W Bx 33 #[.int .i64 (rd_T33 l0 x).f0, .int .i64 (rd_T33 l0 x).f1, .int .u8 (rd_T33 l0 x).f2] ∧ a' = { tmps := #[.slice A0 l0.length c0, .int .u8 a1, .int .i64 a2, undef, .pointer (some ⟨w.heap.size, 0, none⟩), .pointer (some ⟨w.heap.size + 1, 0, none⟩), .pointer (some ⟨w.heap.size + 1 + 1, 0, none⟩), .pointer (some ⟨w.heap.size + 1 + 1 + 1, 0, none⟩), undef, .pointer (some ⟨Bx, 0, none⟩), .slice A0 l0.length c0, .bool true, .bool false, undef, .slice A0 l0.length c0, .func (.func 66) #[] #[.pointer (some ⟨w5.heap.size, 0, none⟩)], .int .i64 (x : Int), .agg #[.int .i64 (rd_T33 l0 x).f0, .int .i64 (rd_T33 l0 x).f1, .int .u8 (rd_T33 l0 x).f2], undef, undef, undef, undef, undef, undef, undef, undef, undef, undef, undef, undef, undef, undef, undef, undef, undef, undef, undef, undef, undef, undef], defers := [] })
      (fun x a' _ X Y row hs hg hr => by obtain ⟨Bx, h1, h2, h3⟩ := hs; exact ⟨Bx, h1, region_Last.Blk.own Bx 33 (fun (_ : Unit) => #[.int .i64 (rd_T33 l0 x).f0, .int .i64 (rd_T33 l0 x).f1, .int .u8 (rd_T33 l0 x).f2]) () X Y row h2 hg (fun r e => (hr r e).2), h3⟩)
      ?assign ?body ?done ?stop
    case assign =>
      rintro l pre x W K ⟨⟨⟨⟨bS1, bT1⟩, bR1, bO1⟩, hp, bN1⟩, hB1⟩ hK
      dsimp only [region_Last.enc]
      gi_wp2
      exact hK _ _ ((KeepsOthers.alloc _ _).from _) ((Below.refl _ W).alloc (by have := bN1.lt; omega) _) ⟨⟨⟨⟨bS1.alloc _, bT1.alloc _⟩, bR1.alloc _, bO1.alloc _⟩, hp, bN1.alloc _⟩, hB1.alloc hB1.size _⟩ ⟨W.heap.size, bN1.lt, region_Last.Blk.new W 33 _, rfl⟩
    case body =>
      rintro l pre x a' W hl ⟨r, hr⟩ ⟨⟨⟨⟨bS1, bT1⟩, bR1, bO1⟩, hp, bN1⟩, hB1⟩ ⟨Bx, hBx, bX, rfl⟩ hlt
      have hx0 : W.cell? ⟨Bx, 0, none⟩ = some (.int .i64 (rd_T33 l0 x).f0) := bX.cell 0
      have hx1 : W.cell? ⟨Bx, 1, none⟩ = some (.int .i64 (rd_T33 l0 x).f1) := bX.cell 1
      have hx2 : W.cell? ⟨Bx, 2, none⟩ = some (.int .u8 (rd_T33 l0 x).f2) := bX.cell 2
      have hcS := bS1.cell
      have hcT := bT1.cell
      by_cases e1 : (rd_T33 l0 x).f2 = a1
      · have e1b : ((rd_T33 l0 x).f2 == a1) = true := beq_iff_eq.mpr e1
        by_cases e2 : (rd_T33 l0 x).f0 < a2
        · have e2b : decide ((rd_T33 l0 x).f0 < a2) = true := decide_eq_true e2
          have hR0 : W.cell? ⟨w.heap.size + 1 + 1, 0, none⟩ = some (.int .i64 0) := bR1.cell 0
          have hR1 : W.cell? ⟨w.heap.size + 1 + 1, 1, none⟩ = some (.int .i64 0) := bR1.cell 1
          have hR2 : W.cell? ⟨w.heap.size + 1 + 1, 2, none⟩ = some (.int .u8 0) := bR1.cell 2
          have fR0' := bR1.frozen 0
          have fR1' := bR1.frozen 1
          have fR2' := bR1.frozen 2
          have cO' := bO1.cell
          have fO' := bO1.frozen
          have E1 := Aside0.mk e1
          have E2 := Aside0.mk e2
          clear e1 e2
          gi_wp2
          all_goals
            have hmn : ∀ m : Int, mn (rd_T33 l0 x).f1 (wrap64 (a2 - (rd_T33 l0 x).f0)) = m → ownPostG (w5.heap.size + 1) (Below (w5.heap.size + 1)) (fun _ _ => True) (fun c pre W => (c = .ret ∧ ∃ ini j, pre = ini ++ [j] ∧ (∀ i ∈ ini, ¬ region_Last.hit l0 a1 a2 i) ∧ region_Last.hit l0 a1 a2 j ∧ region_Last.Blk W (w.heap.size + 1 + 1) 33 #[.int .i64 (rd_T33 l0 j).f0, .int .i64 (mn (rd_T33 l0 j).f1 (wrap64 (a2 - (rd_T33 l0 j).f0))), .int .u8 a1] ∧ Boxed W (w.heap.size + 1 + 1 + 1) 4 (.bool true)) ∧ Below w.heap.size w W) (pre ++ [x]) W .ret { tmps := #[], defers := [] } ((((W.setCell ⟨w.heap.size + 1 + 1, 0, none⟩ (.int .i64 (rd_T33 l0 x).f0)).setCell ⟨w.heap.size + 1 + 1, 1, none⟩ (.int .i64 m)).setCell ⟨w.heap.size + 1 + 1, 2, none⟩ (.int .u8 a1)).setCell ⟨w.heap.size + 1 + 1 + 1, 0, none⟩ (.bool true)) := by
              rintro m rfl
              refine ⟨((((KeepsOthers.setCell _ _ _).from _).trans ((KeepsOthers.setCell _ _ _).from _)).trans ((KeepsOthers.setCell _ _ _).from _)).trans ((KeepsOthers.setCell _ _ _).from _), ⟨rfl, pre, x, rfl, hp, ⟨E1.out, E2.out⟩, ?_, ?_⟩, ?_⟩
              · exact (((bR1.set 0 _).set 1 _).set 2 _).other ⟨w.heap.size + 1 + 1 + 1, 0, none⟩ (by simp) _
              · exact ((((show region_Last.Blk W (w.heap.size + 1 + 1 + 1) 4 #[.bool false] from bO1).other ⟨w.heap.size + 1 + 1, 0, none⟩ (by simp) _).other ⟨w.heap.size + 1 + 1, 1, none⟩ (by simp) _).other ⟨w.heap.size + 1 + 1, 2, none⟩ (by simp) _).set 0 _
              · exact (((hB1.setCell (p := ⟨w.heap.size + 1 + 1, 0, none⟩) (by simp; omega) _).setCell (p := ⟨w.heap.size + 1 + 1, 1, none⟩) (by simp; omega) _).setCell (p := ⟨w.heap.size + 1 + 1, 2, none⟩) (by simp; omega) _).setCell (p := ⟨w.heap.size + 1 + 1 + 1, 0, none⟩) (by simp; omega) _
            first
            | exact hmn _ (by unfold mn; rw [if_neg (by omega)])
            | exact hmn _ (by unfold mn; rw [if_pos (by omega)])
            | exact hmn _ (by unfold mn; split <;> omega)
        · have e2b : decide ((rd_T33 l0 x).f0 < a2) = false := decide_eq_false e2
          have E2 := Aside0.mk e2
          clear e1 e2
          gi_wp2
          exact ⟨KeepsFrom.refl _ _, Below.refl _ _, ⟨⟨⟨⟨bS1, bT1⟩, bR1, bO1⟩, fun i hi => (List.mem_append.1 hi).elim (hp i) (fun e => by simp at e; subst e; exact fun h => absurd h.2 (Int.not_lt.mpr E2.out)), bN1⟩, hB1⟩⟩
      · have e1b : ((rd_T33 l0 x).f2 == a1) = false := beq_eq_false_iff_ne.mpr e1
        have E1 := Aside0.mk e1
        clear e1
        gi_wp2
        exact ⟨KeepsFrom.refl _ _, Below.refl _ _, ⟨⟨⟨⟨bS1, bT1⟩, bR1, bO1⟩, fun i hi => (List.mem_append.1 hi).elim (hp i) (fun e => by simp at e; subst e; exact fun h => E1.out h.1), bN1⟩, hB1⟩⟩
    case done =>
      rintro D ys W hD rfl ⟨⟨⟨⟨bS1, bT1⟩, bR1, bO1⟩, hp, bN1⟩, hB1⟩ hK
      have hR0 : W.cell? ⟨w.heap.size + 1 + 1, 0, none⟩ = some (.int .i64 0) := bR1.cell 0
      have hR1 : W.cell? ⟨w.heap.size + 1 + 1, 1, none⟩ = some (.int .i64 0) := bR1.cell 1
      have hR2 : W.cell? ⟨w.heap.size + 1 + 1, 2, none⟩ = some (.int .u8 0) := bR1.cell 2
      have fR0' := bR1.frozen 0
      have fR1' := bR1.frozen 1
      have fR2' := bR1.frozen 2
      have cO' := bO1.cell
      have fO' := bO1.frozen
      rw [region_Last.g_skip l0 a1 a2 l0.length (fun i hi => hp i (region_Last.mem_bk.2 ⟨Nat.zero_le _, hi⟩))] at h2
      simp only [Prod.mk.injEq] at h2
      obtain ⟨rfl, rfl, rfl, rfl⟩ := h2
      gi_wp2
      have hK' := (KeepsOthers.setCell _ ⟨w.heap.size + 1 + 1 + 1, 0, none⟩ (.bool false)).same D _ ((KeepsOthers.setCell _ ⟨w.heap.size + 1 + 1, 2, none⟩ (.int .u8 0)).same D _ ((KeepsOthers.setCell _ ⟨w.heap.size + 1 + 1, 1, none⟩ (.int .i64 0)).same D _ ((KeepsOthers.setCell W ⟨w.heap.size + 1 + 1, 0, none⟩ (.int .i64 0)).same D _ hK rfl) rfl) rfl) rfl
      refine ⟨by simp, .inl ⟨_, _, rfl, run_takeDeferred hK', ?_⟩⟩
      have bR7 : region_Last.Blk _ (w.heap.size + 1 + 1) 33 _ := (((bR1.set 0 (.int .i64 0)).set 1 (.int .i64 0)).set 2 (.int .u8 0)).other ⟨w.heap.size + 1 + 1 + 1, 0, none⟩ (by simp) (.bool false)
      have bO7 : region_Last.Blk _ (w.heap.size + 1 + 1 + 1) 4 #[.bool false] := ((((show region_Last.Blk W (w.heap.size + 1 + 1 + 1) 4 #[.bool false] from bO1).other ⟨w.heap.size + 1 + 1, 0, none⟩ (by simp) (.int .i64 0)).other ⟨w.heap.size + 1 + 1, 1, none⟩ (by simp) (.int .i64 0)).other ⟨w.heap.size + 1 + 1, 2, none⟩ (by simp) (.int .u8 0)).set 0 (.bool false)
      have bR8 := region_Last.Blk.own (w.heap.size + 1 + 1) 33 (fun (_ : Unit) => _) () _ _ _ bR7 (grownBy_putObj' _ D (.deferred none)) (fun r e => by cases e; exact ⟨_, hK', rfl⟩)
      have bO8 := region_Last.Blk.own (w.heap.size + 1 + 1 + 1) 4 (fun (_ : Unit) => _) () _ _ _ bO7 (grownBy_putObj' _ D (.deferred none)) (fun r e => by cases e; exact ⟨_, hK', rfl⟩)
      have q0 := bR8.cell 0
      have q1 := bR8.cell 1
      have q2 := bR8.cell 2
      have q3 := bO8.cell 0
      simp only [Array.setIfInBounds, Array.set, List.set_cons_zero, List.size_toArray, List.length_cons, List.length_nil] at q0 q1 q2 q3
      refine ⟨.tuple #[.agg #[.int .i64 0, .int .i64 0, .int .u8 0], .bool false], ?_, rfl, ?_⟩
      · simp [results, Try.f24, go_sem, q0, q1, q2, q3]
      · exact ((((hB1.setCell (p := ⟨w.heap.size + 1 + 1, 0, none⟩) (by simp; omega) _).setCell (p := ⟨w.heap.size + 1 + 1, 1, none⟩) (by simp; omega) _).setCell (p := ⟨w.heap.size + 1 + 1, 2, none⟩) (by simp; omega) _).setCell (p := ⟨w.heap.size + 1 + 1 + 1, 0, none⟩) (by simp; omega) _).trans (belowK_b (w := w) (Nat.le_refl _) _ D _ _ (by simp at hD; omega) hK' rfl rfl)
    case stop =>
      rintro D c pre W hD ⟨kk, hkk, rfl⟩ ⟨⟨rfl, ini, j, e1, e2, e3, bR1, bO1⟩, hB1⟩ hK
      rw [← region_Last.bk_step _ _ hkk] at e1
      obtain ⟨rfl, e5⟩ := List.append_inj' e1 rfl
      obtain rfl : kk = j := by simpa using e5
      rw [region_Last.g_hit l0 a1 a2 kk e3 l0.length hkk (fun i h1 h2 => e2 i (region_Last.mem_bk.2 ⟨h1, h2⟩))] at h2
      simp only [Prod.mk.injEq] at h2
      obtain ⟨rfl, rfl, rfl, rfl⟩ := h2
      gi_wp2
      refine ⟨by simp, .inl ⟨_, _, rfl, run_takeDeferred hK, ?_⟩⟩
      have bR8 := region_Last.Blk.own (w.heap.size + 1 + 1) 33 (fun (_ : Unit) => _) () _ _ _ bR1 (grownBy_putObj' _ D (.deferred none)) (fun r e => by cases e; exact ⟨_, hK, rfl⟩)
      have bO8 := region_Last.Blk.own (w.heap.size + 1 + 1 + 1) 4 (fun (_ : Unit) => _) () _ _ _ (show region_Last.Blk W (w.heap.size + 1 + 1 + 1) 4 #[.bool true] from bO1) (grownBy_putObj' _ D (.deferred none)) (fun r e => by cases e; exact ⟨_, hK, rfl⟩)
      have q0 := bR8.cell 0
      have q1 := bR8.cell 1
      have q2 := bR8.cell 2
      have q3 := bO8.cell 0
      refine ⟨.tuple #[.agg #[.int .i64 (rd_T33 l0 kk).f0, .int .i64 (mn (rd_T33 l0 kk).f1 (wrap64 (a2 - (rd_T33 l0 kk).f0))), .int .u8 a1], .bool true], ?_, rfl, ?_⟩
      · simp [results, Try.f24, go_sem, q0, q1, q2, q3]
      · exact hB1.trans (belowK_b (w := w) (Nat.le_refl _) _ D _ _ (by simp at hD; omega) hK rfl rfl)

end Go.Proofs.Ytnoilinjlelpaaa.P
