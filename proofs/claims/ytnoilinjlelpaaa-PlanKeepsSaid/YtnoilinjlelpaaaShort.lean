/- Laid by a program of this session's own (wip/short.py): steps that the printed walks take again and again, each as one lemma whose last premises are shown by themselves. No conditions. -/
import Derived.Test.YtnoilinjlelpaaaWAll
namespace Go.Proofs.Ytnoilinjlelpaaa.P
open Go.RowKit Go.Proofs.YtnoilinjlelpaaaW.PrintWords Go.Proofs.YtnoilinjlelpaaaW.PrintLast
set_option linter.unusedVariables false
theorem bq_ {w0 w1 : World} {g : Nat} {o : Obj} (h : Aside0 (w0.heap[g]? = some o)) (e : w0.heap[g]? = some o → w1.heap[g]? = some o := by intro h_; (with_reducible repeat (first | refine blk_drewN ?_ _ | refine blk_drew ?_ | refine blk_alloc ?_ _)); exact h_) : w1.heap[g]? = some o := e h.out
theorem bb_ {w0 w w1 : World} {g : Nat} {o : Obj} (h : Aside0 (w0.heap[g]? = some o)) (hb : Below w.heap.size w w1) (e : w0.heap[g]? = some o → w.heap[g]? = some o := by intro h_; (with_reducible repeat (first | refine blk_drewN ?_ _ | refine blk_drew ?_ | refine blk_alloc ?_ _)); exact h_) : Aside0 (w1.heap[g]? = some o) := ⟨blk_below (e h.out) hb⟩
theorem bn_ {w0 w : World} {g g2 : Nat} {o : Obj} (h : Aside0 (w0.heap[g]? = some o)) (hg : g2 = w.heap.size) (e : w0.heap[g]? = some o → w.heap[g]? = some o := by intro h_; (with_reducible repeat (first | refine blk_drewN ?_ _ | refine blk_drew ?_ | refine blk_alloc ?_ _)); exact h_) : Aside0 (g ≠ g2) := ⟨by rw [hg]; exact Nat.ne_of_lt (blk_lt (e h.out))⟩
theorem bm_ {w0 w : World} {g g2 : Nat} {o : Obj} (h : Aside0 (w0.heap[g]? = some o)) (hg : g2 = w.heap.size) (e : w0.heap[g]? = some o → w.heap[g]? = some o := by intro h_; (with_reducible repeat (first | refine blk_drewN ?_ _ | refine blk_drew ?_ | refine blk_alloc ?_ _)); exact h_) : Aside0 (g2 ≠ g) := ⟨by rw [hg]; exact Nat.ne_of_gt (blk_lt (e h.out))⟩
theorem bh_ {w w0 W : World} (h : Aside0 (Below w.heap.size w w0)) (e : Below w.heap.size w w0 → Below w.heap.size w W := by intro h_; repeat (first | (with_reducible first | exact h_ | apply below_alloc | apply pw_below_drewN | apply below_drew1 | refine below_set ?_ (Aside0.out (by assumption))) | exact h_)) : Below w.heap.size w W := e h.out
theorem bs_ {w w0 W W1 : World} (h : Aside0 (Below w.heap.size w w0)) (hb : Below W.heap.size W W1) (e : Below w.heap.size w w0 → Below w.heap.size w W := by intro h_; repeat (first | (with_reducible first | exact h_ | apply below_alloc | apply pw_below_drewN | apply below_drew1 | refine below_set ?_ (Aside0.out (by assumption))) | exact h_)) : Aside0 (Below w.heap.size w W1) := ⟨below_step (e h.out) hb⟩
theorem bg_ {w w0 W : World} {g : Nat} (h : Aside0 (Below w.heap.size w w0)) (hg : g = W.heap.size) (e : Below w.heap.size w w0 → Below w.heap.size w W := by intro h_; repeat (first | (with_reducible first | exact h_ | apply below_alloc | apply pw_below_drewN | apply below_drew1 | refine below_set ?_ (Aside0.out (by assumption))) | exact h_)) : Aside0 (w.heap.size ≤ g) := ⟨by rw [hg]; exact below_size (e h.out)⟩
theorem cb_ {α : Type} {d : Kd α} {w w0 W : World} {A : Option Addr} {n : Nat} {l : List α} (h : Aside0 (Kd.C d w A n l)) (b : Aside0 (Below w.heap.size w w0)) (e : Kd.C d w A n l → Below w.heap.size w w0 → Kd.C d W A n l := by intro h_ b_; repeat (first | exact (Kd.C_below h_ b_) | (with_reducible refine Kd.C_alloc ?_ _) | (with_reducible refine Kd.C_drewN ?_ _) | (with_reducible refine Kd.C_drew ?_))) : Kd.C d W A n l := e h.out b.out
theorem bp_ {w0 w1 : World} {g : Nat} {t : TypeId} {cs0 cs1 cs' : Array Value} (h : Aside0 (w0.heap[g]? = some (.cells cs0 t (0, 0)))) (e : w0.heap[g]? = some (.cells cs0 t (0, 0)) → w1.heap[g]? = some (.cells cs1 t (0, 0)) := by intro h_; (repeat (first | (with_reducible first | refine blk_drewN ?_ _ | refine blk_drew ?_ | refine blk_alloc ?_ _) | apply blk_set | apply blk_far (hp := Aside0.out (by assumption)))); exact h_) (e2 : cs1 = cs' := by rfl) : w1.heap[g]? = some (.cells cs' t (0, 0)) := by subst e2; exact e h.out
/-- Which of a region's operations have come up, as the bits of one number. -/
def lb_ (n m : Nat) : Array Bool := ((List.range n).map (Nat.testBit m)).toArray
section
variable {P : Program} {ops : Array Oper} {rest : List Oper} {o : Oper} {Q : Exit → Act → World → Prop} {md : Region.Mode} {S : World → Prop} {ds : List Nat} {fuel : Nat} {l : Array Bool} {a : Act} {w : World}
theorem pu_ {oi : Oper} {v : Value} (i : Nat) (N : Nat) (l' : Array Bool) (hi : ops[i]? = some oi) (hN : oi.dst = some N) (hc : anyB md ops l l' i = true) {a' : Act}
    (h : wpAnyLast P md ops Q S ds fuel l' a' w)
    (hQ : ∀ c a w, Q (.panic c) (a.put oi.dst v) w → Q (.panic c) a w := by exact fun _ _ _ h => h)
    (hy : Yields P ops oi v a := by refine Or.inl ⟨by rfl, ?_⟩; intro w'; go_simp; with_reducible rfl)
    (ha : a.put (some N) v = a' := by simp only [Act.put, List.setIfInBounds_toArray, List.set_cons_zero, List.set_cons_succ, i64_w, i32_w]; rfl)
    : wpAnyLast P md ops Q S ds (fuel + 1) l a w := pure_ l' hi hN hc hQ hy ha h
theorem pd_ {oi : Oper} (i : Nat) (N : Nat) (l' : Array Bool) (hi : ops[i]? = some oi) (hN : oi.dst = some N) (hc : anyB md ops l l' i = true) {a' : Act}
    (h : wpAnyLast P md ops Q S ds fuel l' a' w)
    (hQ : ∀ c a w, Q (.panic c) (a.put oi.dst undef) w → Q (.panic c) a w := by exact fun _ _ _ h => h)
    (hy : Yields P ops oi undef a := by exact Or.inr ⟨by rfl, rfl⟩)
    (ha : a.put (some N) undef = a' := by simp only [Act.put, List.setIfInBounds_toArray, List.set_cons_zero, List.set_cons_succ, i64_w, i32_w]; rfl)
    : wpAnyLast P md ops Q S ds (fuel + 1) l a w := pure_ l' hi hN hc hQ hy ha h
end
section
variable {P : Program} {ops : Array Oper} {rest : List Oper} {o : Oper} {a : Act} {Q : Exit → Act → World → Prop} {W : World}
theorem box_e (N : Tmp) (cs : Array Value) (t : TypeId)
    (h : ∀ g, g = W.heap.size → ∀ w1, w1.heap[g]? = some (.cells cs t (0, 0)) → Below W.heap.size W w1 → wpList P ops Q rest (a.put o.dst (.pointer (some ⟨g, 0, none⟩))) w1)
    (hd : o.dst = some N := by rfl) (hgd : o.guard = none := by rfl)
    (hrun : (execOp a.eval o).run P W = .ok (.value (.pointer (some ⟨W.heap.size, 0, none⟩))) (W.alloc (.cells cs t (0, 0))) := by first | (go_simp; done) | (go_simp; rfl)) : wpList P ops Q (o :: rest) a W := box_event hgd hd hrun h
theorem gl_ {oi : Oper} {w : World} (N : Option Tmp) (hd : oi.dst = N) (hg : oi.guard = none) {f : FuncId} {fn : Func} {as : Array Operand} {ts : Array TypeId} (hf : P.funcs[f]? = some fn) (hname : (fn.name == "runtime.NumGoroutine") = false) (hb : fn.body.isSome = true) (args : Array Value)
    (hop : oi.op = .call { callee := .value (.func f), args := as, argTypes := ts }) (h : Calls P f args w fun e w' => ∃ v, e = .returned v ∧ wpList P ops Q rest (a.put N v) w')
    (hargs : as.map a.eval = args := by (try simp only [List.map_toArray, List.map_cons, List.map_nil]); first | done | rfl | (simp only [List.length_drop, List.length_take]; rfl)) : wpList P ops Q (oi :: rest) a w := goesL_ N hd hg hf hname hb args hop hargs h
theorem gq_ {oi : Oper} {N : Option Tmp} {w : World} {K : Act → World → Prop} {f : FuncId} {fn : Func} {as : Array Operand} {ts : Array TypeId} (hf : P.funcs[f]? = some fn) (hname : (fn.name == "runtime.NumGoroutine") = false) (hb : fn.body.isSome = true) (args : Array Value)
    (hw : Region.wanted oi (yielded ops a.tmps) = true) (hN : oi.dst = N) (hop : oi.op = .call { callee := .value (.func f), args := as, argTypes := ts })
    (h : Calls P f args w fun e w' => ∃ v, e = .returned v ∧ K (a.put N v) w')
    (hargs : as.map a.eval = args := by (try simp only [List.map_toArray, List.map_cons, List.map_nil]); first | done | rfl | (simp only [List.length_drop, List.length_take]; rfl)) : if Region.wanted oi (yielded ops a.tmps) = true then Oper.wp P oi a w K Q else K (a.put N undef) w := goes_ hf hname hb args hw hN hop hargs h
end
end Go.Proofs.Ytnoilinjlelpaaa.P
