/- Laid by a program of this session's own (wip/lawrow.py). Arguments that are read as data are told as plain values; nothing is asked of them beyond their types. -/
import Derived.Test.YtbmhfnncagncmaaDoorPx0
import Derived.Deep.Slices
import Derived.Deep.Fields
import Derived.ChangeSame
import Derived.ChangeArms
namespace Go.Proofs.YtbmhfnncagncmaaDoor.Open
open Go.ChangeShapes Go.WideShapes Go.Deep Go.RowKit Go.Proofs.YtbmhfnncagncmaaDoorW.PrintWords Go.Proofs.YtbmhfnncagncmaaDoorW.PrintLast Go.Proofs.YtbmhfnncagncmaaDoor.P
/-- What is read as data of a type is told as a value of a kind. -/
def Opens {α : Type} (P : Program) (t : TypeId) (d : Kd α) (wf : α → Prop) : Prop :=
  ∀ {H : Type} {enc : TypeId × Value → H} {w : World} {base : Nat} {spare : Nat → Bool} {held : Bool} {fuel : Nat} {cs : List Value} {x : DataW H × List MemPlace},
    DataW.trod enc P w base spare held fuel t cs = some x → ∃ a, d.K w a cs ∧ wf a
theorem opens_int {P : Program} {t : TypeId} {k : IntKind} (ht : P.underlying t = some (.int k)) : Opens P t (Kd.int k) (fun n => (Lit.int k n).wf = true) := by
  intro H enc w base spare held fuel cs x h
  obtain ⟨n, rfl, _, hw⟩ := DataW.trod_int ht h
  exact ⟨n, rfl, hw⟩
theorem opens_bool {P : Program} {t : TypeId} (ht : P.underlying t = some .bool) : Opens P t Kd.bool (fun _ => True) := by
  intro H enc w base spare held fuel cs x h
  obtain ⟨b, rfl, _⟩ := DataW.trod_bool ht h
  exact ⟨b, rfl, trivial⟩
theorem opens_string {P : Program} {t : TypeId} (ht : P.underlying t = some .string) : Opens P t Kd.string (fun s => s.size ≤ maxLen) := by
  intro H enc w base spare held fuel cs x h
  obtain ⟨s, rfl, _, hs⟩ := DataW.trod_string ht h
  exact ⟨s, rfl, hs⟩
theorem pick {α : Type} (Q : Nat → α → Prop) : ∀ n : Nat, (∀ i, i < n → ∃ a, Q i a) → ∃ xs : List α, xs.length = n ∧ ∀ i a, xs[i]? = some a → Q i a
  | 0, _ => ⟨[], rfl, fun i a h => by simp at h⟩
  | n + 1, h => by
    obtain ⟨xs, hl, hx⟩ := pick Q n (fun i hi => h i (by omega))
    obtain ⟨a, ha⟩ := h n (by omega)
    refine ⟨xs ++ [a], by simp [hl], fun i b hb => ?_⟩
    by_cases hi : i < n
    · rw [List.getElem?_append_left (by omega)] at hb
      exact hx i b hb
    · have : i = n := by
        have := (List.getElem?_eq_some_iff.1 hb).1
        simp [hl] at this
        omega
      subst this
      rw [List.getElem?_append_right (by omega), hl, Nat.sub_self] at hb
      cases hb
      exact ha
theorem opens_slice {α : Type} {P : Program} {t e : TypeId} {d : Kd α} {wf : α → Prop} (ht : P.underlying t = some (.slice e)) (hs : P.cellsOf e = d.sz) (hd : Opens P e d wf) : Opens P t (Kd.slice e d) (fun xs => ∀ x_ ∈ xs, wf x_) := by
  intro H enc w base spare held fuel cs x h
  rcases open_slice ht h with ⟨rfl, _⟩ | ⟨a, len, cap, m, n, D, Pl, rfl, hb, hl, hm, hmm, _, hi⟩
  · exact ⟨[], ⟨none, 0, rfl, Nat.le_refl _, rfl, by simp, fun h => absurd h (by simp)⟩, by simp⟩
  · have hle : len ≤ m := by rw [hmm]; split <;> omega
    obtain ⟨xs, hxl, hx⟩ := pick (fun i a_ => wf a_ ∧ ∃ c, c.length = d.sz ∧ d.K w a_ c ∧ ∀ j u, c[j]? = some u → w.cell? (a.add (i * d.sz + j)) = some u) len (fun i hil => by
      obtain ⟨cs', hc, ht'⟩ := hi i (by omega)
      obtain ⟨a_, hk, hw⟩ := hd ht'
      rw [hs] at hc
      obtain ⟨_, hcl, hat⟩ := World.cells?_some hc
      refine ⟨a_, hw, cs', hcl, hk, fun j u hu => ?_⟩
      have hj := (List.getElem?_eq_some_iff.1 hu).1
      rw [← Go.Deep.add_add, hat j (by omega), hu])
    refine ⟨xs, ⟨some a, cap, by rw [hxl], by omega, rfl, by unfold maxLen at hm; omega, fun _ => ⟨a, rfl, fun j p hp => ?_⟩⟩, fun x_ hx_ => ?_⟩
    · exact (hx j p hp).2
    · obtain ⟨j, hj⟩ := List.mem_iff_getElem?.1 hx_
      exact (hx j x_ hj).1
theorem opens5 : Opens Tryd.prog 5 (Kd.int .u8) (fun n => (Lit.int .u8 n).wf = true) := opens_int Tryd.underlying5
theorem opens30 : Opens Tryd.prog 30 (Kd.int .u32) (fun n => (Lit.int .u32 n).wf = true) := opens_int Tryd.underlying30
theorem cells5 : Tryd.prog.cellsOf 5 = 1 := by kernel_rfl
theorem cells30 : Tryd.prog.cellsOf 30 = 1 := by kernel_rfl
structure S32 where
  f0 : Int
  f1 : Int
  f2 : Int
  f3 : Int
  f4 : Int
  f5 : Int
  f6 : Int
  f7 : Int
  f8 : Int
  f9 : Int
  f10 : Int
def k32 : Kd S32 := Kd.iso (Kd.pair (Kd.int .u8) (Kd.pair (Kd.int .u8) (Kd.pair (Kd.int .u8) (Kd.pair (Kd.int .u8) (Kd.pair (Kd.int .u8) (Kd.pair (Kd.int .u8) (Kd.pair (Kd.int .u8) (Kd.pair (Kd.int .u8) (Kd.pair (Kd.int .u8) (Kd.pair (Kd.int .u8) (Kd.int .u32))))))))))) (fun x : S32 => (x.f0, x.f1, x.f2, x.f3, x.f4, x.f5, x.f6, x.f7, x.f8, x.f9, x.f10))
theorem cells32 : Tryd.prog.cellsOf 32 = 11 := by kernel_rfl
def WF32 (x : S32) : Prop := (Lit.int .u8 x.f0).wf = true ∧ (Lit.int .u8 x.f1).wf = true ∧ (Lit.int .u8 x.f2).wf = true ∧ (Lit.int .u8 x.f3).wf = true ∧ (Lit.int .u8 x.f4).wf = true ∧ (Lit.int .u8 x.f5).wf = true ∧ (Lit.int .u8 x.f6).wf = true ∧ (Lit.int .u8 x.f7).wf = true ∧ (Lit.int .u8 x.f8).wf = true ∧ (Lit.int .u8 x.f9).wf = true ∧ (Lit.int .u32 x.f10).wf = true
set_option maxRecDepth 100000 in
theorem opens32 : Opens Tryd.prog 32 k32 WF32 := by
  intro H enc w base spare held fuel cs x h
  obtain ⟨ys, n, _, _, hlen, hys, hf⟩ := DataW.trod_struct Tryd.underlying32 h
  rw [cells32] at hlen
  replace hys : ys.length = 11 := hys
  obtain ⟨v0, v1, v2, v3, v4, v5, v6, v7, v8, v9, v10, rfl⟩ : ∃ v0 v1 v2 v3 v4 v5 v6 v7 v8 v9 v10 : Value, cs = [v0, v1, v2, v3, v4, v5, v6, v7, v8, v9, v10] := by
    match cs, hlen with
    | [v0, v1, v2, v3, v4, v5, v6, v7, v8, v9, v10], _ => exact ⟨v0, v1, v2, v3, v4, v5, v6, v7, v8, v9, v10, rfl⟩
  have e0 := (hf 0 _ rfl).trans (List.getElem?_eq_getElem (show 0 < ys.length by omega))
  simp only [List.getElem_toArray, List.getElem_cons_zero] at e0
  rw [cells5] at e0
  obtain ⟨x0, k0_, w0_⟩ := opens5 e0
  replace k0_ : (Kd.int .u8).K w x0 [v0] := k0_
  have e1 := (hf 1 _ rfl).trans (List.getElem?_eq_getElem (show 1 < ys.length by omega))
  simp only [List.getElem_toArray, List.getElem_cons_zero, List.getElem_cons_succ] at e1
  rw [cells5] at e1
  obtain ⟨x1, k1_, w1_⟩ := opens5 e1
  replace k1_ : (Kd.int .u8).K w x1 [v1] := k1_
  have e2 := (hf 2 _ rfl).trans (List.getElem?_eq_getElem (show 2 < ys.length by omega))
  simp only [List.getElem_toArray, List.getElem_cons_zero, List.getElem_cons_succ] at e2
  rw [cells5] at e2
  obtain ⟨x2, k2_, w2_⟩ := opens5 e2
  replace k2_ : (Kd.int .u8).K w x2 [v2] := k2_
  have e3 := (hf 3 _ rfl).trans (List.getElem?_eq_getElem (show 3 < ys.length by omega))
  simp only [List.getElem_toArray, List.getElem_cons_zero, List.getElem_cons_succ] at e3
  rw [cells5] at e3
  obtain ⟨x3, k3_, w3_⟩ := opens5 e3
  replace k3_ : (Kd.int .u8).K w x3 [v3] := k3_
  have e4 := (hf 4 _ rfl).trans (List.getElem?_eq_getElem (show 4 < ys.length by omega))
  simp only [List.getElem_toArray, List.getElem_cons_zero, List.getElem_cons_succ] at e4
  rw [cells5] at e4
  obtain ⟨x4, k4_, w4_⟩ := opens5 e4
  replace k4_ : (Kd.int .u8).K w x4 [v4] := k4_
  have e5 := (hf 5 _ rfl).trans (List.getElem?_eq_getElem (show 5 < ys.length by omega))
  simp only [List.getElem_toArray, List.getElem_cons_zero, List.getElem_cons_succ] at e5
  rw [cells5] at e5
  obtain ⟨x5, k5_, w5_⟩ := opens5 e5
  replace k5_ : (Kd.int .u8).K w x5 [v5] := k5_
  have e6 := (hf 6 _ rfl).trans (List.getElem?_eq_getElem (show 6 < ys.length by omega))
  simp only [List.getElem_toArray, List.getElem_cons_zero, List.getElem_cons_succ] at e6
  rw [cells5] at e6
  obtain ⟨x6, k6_, w6_⟩ := opens5 e6
  replace k6_ : (Kd.int .u8).K w x6 [v6] := k6_
  have e7 := (hf 7 _ rfl).trans (List.getElem?_eq_getElem (show 7 < ys.length by omega))
  simp only [List.getElem_toArray, List.getElem_cons_zero, List.getElem_cons_succ] at e7
  rw [cells5] at e7
  obtain ⟨x7, k7_, w7_⟩ := opens5 e7
  replace k7_ : (Kd.int .u8).K w x7 [v7] := k7_
  have e8 := (hf 8 _ rfl).trans (List.getElem?_eq_getElem (show 8 < ys.length by omega))
  simp only [List.getElem_toArray, List.getElem_cons_zero, List.getElem_cons_succ] at e8
  rw [cells5] at e8
  obtain ⟨x8, k8_, w8_⟩ := opens5 e8
  replace k8_ : (Kd.int .u8).K w x8 [v8] := k8_
  have e9 := (hf 9 _ rfl).trans (List.getElem?_eq_getElem (show 9 < ys.length by omega))
  simp only [List.getElem_toArray, List.getElem_cons_zero, List.getElem_cons_succ] at e9
  rw [cells5] at e9
  obtain ⟨x9, k9_, w9_⟩ := opens5 e9
  replace k9_ : (Kd.int .u8).K w x9 [v9] := k9_
  have e10 := (hf 10 _ rfl).trans (List.getElem?_eq_getElem (show 10 < ys.length by omega))
  simp only [List.getElem_toArray, List.getElem_cons_zero, List.getElem_cons_succ] at e10
  rw [cells30] at e10
  obtain ⟨x10, k10_, w10_⟩ := opens30 e10
  replace k10_ : (Kd.int .u32).K w x10 [v10] := k10_
  exact ⟨⟨x0, x1, x2, x3, x4, x5, x6, x7, x8, x9, x10⟩, ⟨_, _, rfl, k0_, ⟨_, _, rfl, k1_, ⟨_, _, rfl, k2_, ⟨_, _, rfl, k3_, ⟨_, _, rfl, k4_, ⟨_, _, rfl, k5_, ⟨_, _, rfl, k6_, ⟨_, _, rfl, k7_, ⟨_, _, rfl, k8_, ⟨_, _, rfl, k9_, k10_⟩⟩⟩⟩⟩⟩⟩⟩⟩⟩, ⟨w0_, w1_, w2_, w3_, w4_, w5_, w6_, w7_, w8_, w9_, w10_⟩⟩
end Go.Proofs.YtbmhfnncagncmaaDoor.Open
