/- Laid by a program of this session's own (wip/lawrow.py). Arguments that are read as data are told as plain values; nothing is asked of them beyond their types. -/
import Derived.Test.YtlcablcpcbmgeaaGreatDoorPx0
import Derived.Deep.Slices
import Derived.Deep.Fields
import Derived.ChangeSame
import Derived.ChangeArms
namespace Go.Proofs.YtlcablcpcbmgeaaGreatDoor.Open
open Go.ChangeShapes Go.WideShapes Go.Deep Go.RowKit Go.Proofs.YtlcablcpcbmgeaaGreatDoorW.PrintWords Go.Proofs.YtlcablcpcbmgeaaGreatDoorW.PrintLast Go.Proofs.YtlcablcpcbmgeaaGreatDoor.P
/-- What is read as data of a type is told as a value of a kind. -/
def Opens {α : Type} (P : Program) (t : TypeId) (d : Kd α) (wf : α → Prop) : Prop :=
  ∀ {H : Type} {enc : TypeId × Value → H} {w : World} {base : Nat} {spare : Nat → Bool} {held : Bool} {fuel : Nat} {cs : List Value} {x : DataW H × List MemPlace},
    DataW.trod enc P w base spare held fuel t cs = some x → ∃ a, d.K w a cs ∧ wf a
theorem opens_int {P : Program} {t : TypeId} {k : IntKind} (ht : P.underlying t = some (.int k)) : Opens P t (Kd.int k) (fun n => (Lit.int k n).wf = true) := by
  intro H enc w base spare held fuel cs x h
  obtain ⟨n, rfl, _, hw⟩ := DataW.trod_int ht h
  exact ⟨n, rfl, hw⟩
theorem opens_bool {P : Program} {t : TypeId} (ht : P.underlying t = some .bool) : Opens P t Kd.bool (fun _ => True) := by
  intro H enc w base spare held fuel cs x h
  obtain ⟨b, rfl, _⟩ := DataW.trod_bool ht h
  exact ⟨b, rfl, trivial⟩
theorem opens_string {P : Program} {t : TypeId} (ht : P.underlying t = some .string) : Opens P t Kd.string (fun s => s.size ≤ maxLen) := by
  intro H enc w base spare held fuel cs x h
  obtain ⟨s, rfl, _, hs⟩ := DataW.trod_string ht h
  exact ⟨s, rfl, hs⟩
theorem pick {α : Type} (Q : Nat → α → Prop) : ∀ n : Nat, (∀ i, i < n → ∃ a, Q i a) → ∃ xs : List α, xs.length = n ∧ ∀ i a, xs[i]? = some a → Q i a
  | 0, _ => ⟨[], rfl, fun i a h => by simp at h⟩
  | n + 1, h => by
    obtain ⟨xs, hl, hx⟩ := pick Q n (fun i hi => h i (by omega))
    obtain ⟨a, ha⟩ := h n (by omega)
    refine ⟨xs ++ [a], by simp [hl], fun i b hb => ?_⟩
    by_cases hi : i < n
    · rw [List.getElem?_append_left (by omega)] at hb
      exact hx i b hb
    · have : i = n := by
        have := (List.getElem?_eq_some_iff.1 hb).1
        simp [hl] at this
        omega
      subst this
      rw [List.getElem?_append_right (by omega), hl, Nat.sub_self] at hb
      cases hb
      exact ha
theorem opens_slice {α : Type} {P : Program} {t e : TypeId} {d : Kd α} {wf : α → Prop} (ht : P.underlying t = some (.slice e)) (hs : P.cellsOf e = d.sz) (hd : Opens P e d wf) : Opens P t (Kd.slice e d) (fun xs => ∀ x_ ∈ xs, wf x_) := by
  intro H enc w base spare held fuel cs x h
  rcases open_slice ht h with ⟨rfl, _⟩ | ⟨a, len, cap, m, n, D, Pl, rfl, hb, hl, hm, hmm, _, hi⟩
  · exact ⟨[], ⟨none, 0, rfl, Nat.le_refl _, rfl, by simp, fun h => absurd h (by simp)⟩, by simp⟩
  · have hle : len ≤ m := by rw [hmm]; split <;> omega
    obtain ⟨xs, hxl, hx⟩ := pick (fun i a_ => wf a_ ∧ ∃ c, c.length = d.sz ∧ d.K w a_ c ∧ ∀ j u, c[j]? = some u → w.cell? (a.add (i * d.sz + j)) = some u) len (fun i hil => by
      obtain ⟨cs', hc, ht'⟩ := hi i (by omega)
      obtain ⟨a_, hk, hw⟩ := hd ht'
      rw [hs] at hc
      obtain ⟨_, hcl, hat⟩ := World.cells?_some hc
      refine ⟨a_, hw, cs', hcl, hk, fun j u hu => ?_⟩
      have hj := (List.getElem?_eq_some_iff.1 hu).1
      rw [← Go.Deep.add_add, hat j (by omega), hu])
    refine ⟨xs, ⟨some a, cap, by rw [hxl], by omega, rfl, by unfold maxLen at hm; omega, fun _ => ⟨a, rfl, fun j p hp => ?_⟩⟩, fun x_ hx_ => ?_⟩
    · exact (hx j p hp).2
    · obtain ⟨j, hj⟩ := List.mem_iff_getElem?.1 hx_
      exact (hx j x_ hj).1
theorem opens3 : Opens Tryz.prog 3 (Kd.int .i64) (fun n => (Lit.int .i64 n).wf = true) := opens_int Tryz.underlying3
theorem opens5 : Opens Tryz.prog 5 (Kd.int .u8) (fun n => (Lit.int .u8 n).wf = true) := opens_int Tryz.underlying5
theorem cells3 : Tryz.prog.cellsOf 3 = 1 := by kernel_rfl
theorem cells5 : Tryz.prog.cellsOf 5 = 1 := by kernel_rfl
theorem cells23 : Tryz.prog.cellsOf 23 = 3 := by kernel_rfl
def WF23 (x : S23) : Prop := (Lit.int .i64 x.f0).wf = true ∧ (Lit.int .i64 x.f1).wf = true ∧ (Lit.int .u8 x.f2).wf = true
set_option maxRecDepth 100000 in
theorem opens23 : Opens Tryz.prog 23 k23 WF23 := by
  intro H enc w base spare held fuel cs x h
  obtain ⟨ys, n, _, _, hlen, hys, hf⟩ := DataW.trod_struct Tryz.underlying23 h
  rw [cells23] at hlen
  replace hys : ys.length = 3 := hys
  obtain ⟨v0, v1, v2, rfl⟩ : ∃ v0 v1 v2 : Value, cs = [v0, v1, v2] := by
    match cs, hlen with
    | [v0, v1, v2], _ => exact ⟨v0, v1, v2, rfl⟩
  have e0 := (hf 0 _ rfl).trans (List.getElem?_eq_getElem (show 0 < ys.length by omega))
  simp only [List.getElem_toArray, List.getElem_cons_zero] at e0
  rw [cells3] at e0
  obtain ⟨x0, k0_, w0_⟩ := opens3 e0
  replace k0_ : (Kd.int .i64).K w x0 [v0] := k0_
  have e1 := (hf 1 _ rfl).trans (List.getElem?_eq_getElem (show 1 < ys.length by omega))
  simp only [List.getElem_toArray, List.getElem_cons_zero, List.getElem_cons_succ] at e1
  rw [cells3] at e1
  obtain ⟨x1, k1_, w1_⟩ := opens3 e1
  replace k1_ : (Kd.int .i64).K w x1 [v1] := k1_
  have e2 := (hf 2 _ rfl).trans (List.getElem?_eq_getElem (show 2 < ys.length by omega))
  simp only [List.getElem_toArray, List.getElem_cons_zero, List.getElem_cons_succ] at e2
  rw [cells5] at e2
  obtain ⟨x2, k2_, w2_⟩ := opens5 e2
  replace k2_ : (Kd.int .u8).K w x2 [v2] := k2_
  exact ⟨⟨x0, x1, x2⟩, ⟨_, _, rfl, k0_, ⟨_, _, rfl, k1_, k2_⟩⟩, ⟨w0_, w1_, w2_⟩⟩
theorem opens24 : Opens Tryz.prog 24 (Kd.slice 23 k23) (fun xs => (∀ x_ ∈ xs, WF23 x_)) := opens_slice Tryz.underlying24 (cells23.trans rfl) opens23
theorem cells24 : Tryz.prog.cellsOf 24 = 1 := by kernel_rfl
theorem cells26 : Tryz.prog.cellsOf 26 = 4 := by kernel_rfl
def WF26 (x : S26) : Prop := (Lit.int .i64 x.f0).wf = true ∧ (Lit.int .i64 x.f1).wf = true ∧ (Lit.int .u8 x.f2).wf = true ∧ (∀ x_ ∈ x.f3, WF23 x_)
set_option maxRecDepth 100000 in
theorem opens26 : Opens Tryz.prog 26 k26 WF26 := by
  intro H enc w base spare held fuel cs x h
  obtain ⟨ys, n, _, _, hlen, hys, hf⟩ := DataW.trod_struct Tryz.underlying26 h
  rw [cells26] at hlen
  replace hys : ys.length = 4 := hys
  obtain ⟨v0, v1, v2, v3, rfl⟩ : ∃ v0 v1 v2 v3 : Value, cs = [v0, v1, v2, v3] := by
    match cs, hlen with
    | [v0, v1, v2, v3], _ => exact ⟨v0, v1, v2, v3, rfl⟩
  have e0 := (hf 0 _ rfl).trans (List.getElem?_eq_getElem (show 0 < ys.length by omega))
  simp only [List.getElem_toArray, List.getElem_cons_zero] at e0
  rw [cells3] at e0
  obtain ⟨x0, k0_, w0_⟩ := opens3 e0
  replace k0_ : (Kd.int .i64).K w x0 [v0] := k0_
  have e1 := (hf 1 _ rfl).trans (List.getElem?_eq_getElem (show 1 < ys.length by omega))
  simp only [List.getElem_toArray, List.getElem_cons_zero, List.getElem_cons_succ] at e1
  rw [cells3] at e1
  obtain ⟨x1, k1_, w1_⟩ := opens3 e1
  replace k1_ : (Kd.int .i64).K w x1 [v1] := k1_
  have e2 := (hf 2 _ rfl).trans (List.getElem?_eq_getElem (show 2 < ys.length by omega))
  simp only [List.getElem_toArray, List.getElem_cons_zero, List.getElem_cons_succ] at e2
  rw [cells5] at e2
  obtain ⟨x2, k2_, w2_⟩ := opens5 e2
  replace k2_ : (Kd.int .u8).K w x2 [v2] := k2_
  have e3 := (hf 3 _ rfl).trans (List.getElem?_eq_getElem (show 3 < ys.length by omega))
  simp only [List.getElem_toArray, List.getElem_cons_zero, List.getElem_cons_succ] at e3
  rw [cells24] at e3
  obtain ⟨x3, k3_, w3_⟩ := opens24 e3
  replace k3_ : (Kd.slice 23 k23).K w x3 [v3] := k3_
  exact ⟨⟨x0, x1, x2, x3⟩, ⟨_, _, rfl, k0_, ⟨_, _, rfl, k1_, ⟨_, _, rfl, k2_, k3_⟩⟩⟩, ⟨w0_, w1_, w2_, w3_⟩⟩
theorem opens9 : Opens Tryz.prog 9 Kd.string (fun s => s.size ≤ maxLen) := opens_string Tryz.underlying9
theorem cells9 : Tryz.prog.cellsOf 9 = 1 := by kernel_rfl
theorem opens36 : Opens Tryz.prog 36 (Kd.slice 9 Kd.string) (fun xs => (∀ x_ ∈ xs, x_.size ≤ maxLen)) := opens_slice Tryz.underlying36 (cells9.trans rfl) opens9
theorem cells75 : Tryz.prog.cellsOf 75 = 3 := by kernel_rfl
def WF75 (x : S75) : Prop := (Lit.int .u8 x.f0).wf = true ∧ (Lit.int .u8 x.f1).wf = true ∧ (Lit.int .u8 x.f2).wf = true
set_option maxRecDepth 100000 in
theorem opens75 : Opens Tryz.prog 75 k75 WF75 := by
  intro H enc w base spare held fuel cs x h
  obtain ⟨ys, n, _, _, hlen, hys, hf⟩ := DataW.trod_struct Tryz.underlying75 h
  rw [cells75] at hlen
  replace hys : ys.length = 3 := hys
  obtain ⟨v0, v1, v2, rfl⟩ : ∃ v0 v1 v2 : Value, cs = [v0, v1, v2] := by
    match cs, hlen with
    | [v0, v1, v2], _ => exact ⟨v0, v1, v2, rfl⟩
  have e0 := (hf 0 _ rfl).trans (List.getElem?_eq_getElem (show 0 < ys.length by omega))
  simp only [List.getElem_toArray, List.getElem_cons_zero] at e0
  rw [cells5] at e0
  obtain ⟨x0, k0_, w0_⟩ := opens5 e0
  replace k0_ : (Kd.int .u8).K w x0 [v0] := k0_
  have e1 := (hf 1 _ rfl).trans (List.getElem?_eq_getElem (show 1 < ys.length by omega))
  simp only [List.getElem_toArray, List.getElem_cons_zero, List.getElem_cons_succ] at e1
  rw [cells5] at e1
  obtain ⟨x1, k1_, w1_⟩ := opens5 e1
  replace k1_ : (Kd.int .u8).K w x1 [v1] := k1_
  have e2 := (hf 2 _ rfl).trans (List.getElem?_eq_getElem (show 2 < ys.length by omega))
  simp only [List.getElem_toArray, List.getElem_cons_zero, List.getElem_cons_succ] at e2
  rw [cells5] at e2
  obtain ⟨x2, k2_, w2_⟩ := opens5 e2
  replace k2_ : (Kd.int .u8).K w x2 [v2] := k2_
  exact ⟨⟨x0, x1, x2⟩, ⟨_, _, rfl, k0_, ⟨_, _, rfl, k1_, k2_⟩⟩, ⟨w0_, w1_, w2_⟩⟩
theorem opens38 : Opens Tryz.prog 38 (Kd.slice 75 k75) (fun xs => (∀ x_ ∈ xs, WF75 x_)) := opens_slice Tryz.underlying38 (cells75.trans rfl) opens75
theorem opens39 : Opens Tryz.prog 39 (Kd.slice 5 (Kd.int .u8)) (fun xs => (∀ x_ ∈ xs, (Lit.int .u8 x_).wf = true)) := opens_slice Tryz.underlying39 (cells5.trans rfl) opens5
end Go.Proofs.YtlcablcpcbmgeaaGreatDoor.Open
