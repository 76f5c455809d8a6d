/- Plain laws of dd's operands: what Parse answers to operands that are told by their keys and values. No program in sight. No conditions beyond those that the lemmas name. -/
import Derived.Test.YtbmhfnncagncmaaDoorPx0
import Derived.Test.YtbmhfnncagncmaaDoorPx3
import Derived.Test.YtbmhfnncagncmaaDoorPx4
import Derived.Test.YtbmhfnncagncmaaDoorPx5
import Derived.Test.YtbmhfnncagncmaaDoorPx7
import Derived.Test.YtbmhfnncagncmaaDoorOrdB
import Derived.Lib.SmallJoins
import Derived.Lib.CutLaws
-- names: strings_Cut.f arg_key.f arg_Find.f arg_Operands.f arg_Only.f
namespace Go.Proofs.YtbmhfnncagncmaaDoor.PureO
open Go.RowKit Go.Proofs.YtbmhfnncagncmaaDoorW.PrintWords Go.Proofs.YtbmhfnncagncmaaDoorW.PrintLast Go.Proofs.YtbmhfnncagncmaaDoor.P
set_option linter.unusedVariables false
set_option linter.unusedSimpArgs false
/-- An operand's text. -/
def textOf (o : S60) : ByteArray := (o.f0 ++ ⟨#[61]⟩) ++ o.f1
theorem ib (c : UInt8) (v : List UInt8) : ∀ k : List UInt8, c ∉ k → Lib.indexByte (k ++ c :: v) c = (k.length : Int)
  | [], _ => by simp [Lib.indexByte]
  | b :: k, h => by
    simp only [List.mem_cons, not_or] at h
    have ih := ib c v k h.2
    rw [List.cons_append, Lib.indexByte, ih]
    have hb : ¬ (b == c) = true := by simpa using fun e => h.1 e.symm
    rw [if_neg hb, if_neg (by simp)]
    simp
theorem cut_text (o : S60) (h : (61 : UInt8) ∉ o.f0.data.toList) (hs : (textOf o).size < 4294967281) : strings_Cut.f (textOf o) ⟨#[61]⟩ = some (o.f0, o.f1, true) := by
  have hd : (textOf o).data.toList = o.f0.data.toList ++ 61 :: o.f1.data.toList := by
    unfold textOf
    rw [Go.Joins.data_append, Go.Joins.data_append]; simp
  have hx : Lib.index (textOf o).data.toList [61] = (o.f0.data.toList.length : Int) := by
    rw [hd, Lib.index_one, ib 61 _ _ h]
  have hc : Lib.cut (textOf o).data.toList [61] = (o.f0.data.toList, o.f1.data.toList, true) := by
    unfold Lib.cut
    rw [if_pos (by rw [hx]; omega), hx, hd, Int.toNat_natCast]
    refine Prod.ext ?_ (Prod.ext ?_ rfl)
    · simp
    · show List.drop (o.f0.data.toList.length + 1) (o.f0.data.toList ++ 61 :: o.f1.data.toList) = _
      rw [show o.f0.data.toList ++ 61 :: o.f1.data.toList = (o.f0.data.toList ++ [61]) ++ o.f1.data.toList from by simp, List.drop_left' (by simp)]
  unfold strings_Cut.f
  rw [if_pos hs]
  show some ((⟨(Lib.cut (textOf o).data.toList [61]).1.toArray⟩ : ByteArray), (⟨(Lib.cut (textOf o).data.toList [61]).2.1.toArray⟩ : ByteArray), (Lib.cut (textOf o).data.toList [61]).2.2) = _
  rw [hc]
theorem key_good : ∀ key ∈ keysW, arg_key.f 20 key = some true ∧ (61 : UInt8) ∉ key.data.toList ∧ key.size ≤ 5 := by decide +kernel
theorem key_ev {key : ByteArray} (h : key ∈ keysW) : Ev (fun k => arg_key.f k key) true := Ev.of (fun k => arg_key.mono _ _) (key_good key h).1
theorem nine_or : ∀ key ∈ keysW, key ∈ nine ∨ key.toList = [99, 111, 110, 118] ∨ key.toList = [105, 102, 108, 97, 103] := by
  intro key h
  simp only [keysW, List.mem_cons, List.mem_nil_iff, or_false] at h
  rcases h with rfl | rfl | rfl | rfl | rfl | rfl | rfl | rfl | rfl | rfl | rfl
  · exact .inl (by simp [nine, kIf])
  · exact .inl (by simp [nine, kOf])
  · exact .inl (by simp [nine, kBs])
  · exact .inl (by simp [nine, kIbs])
  · exact .inl (by simp [nine, kObs])
  · exact .inl (by simp [nine, kCbs])
  · exact .inl (by simp [nine, kSkip])
  · exact .inl (by simp [nine, kSeek])
  · exact .inl (by simp [nine, kCount])
  · exact .inr (.inl (by decide +kernel))
  · exact .inr (.inr (by decide +kernel))
theorem toList_inj {a b : ByteArray} (h : a.toList = b.toList) : a = b := by
  rw [ByteArray.toList_eq, ByteArray.toList_eq] at h
  exact ByteArray.ext (Array.ext' h)
theorem sel_mem {key : ByteArray} {l : List S60} {o : S60} (h : o ∈ l) (hk : o.f0 = key) : o ∈ sel key l := List.mem_filter.2 ⟨h, by simp [hk]⟩
/-- Operands whose keys are known, each but conv and iflag once. -/
structure Good (kv : List S60) : Prop where
  len : kv.length ≤ 40
  key : ∀ o ∈ kv, o.f0 ∈ keysW ∧ o.f1.size ≤ 1000
  one : ∀ key ∈ nine, (sel key kv).length ≤ 1
theorem wrapS (n : Nat) (h : n ≤ 1000) : wrap64 ((n : Int) + 1) = ((n + 1 : Nat) : Int) := by unfold wrap64; omega
theorem ops_loop (kv : List S60) (hg : Good kv) : ∀ (t a : List S60), kv = a ++ t → Ev (fun k => arg_Operands.l0 k a (kv.map textOf) ((kv.map textOf).length : Int) (a.length : Int)) (kv, true)
  | [], a, e => by
    rw [List.append_nil] at e
    subst e
    refine ⟨1, fun k hk => ?_⟩
    obtain ⟨k, rfl⟩ : ∃ k', k = k' + 1 := ⟨k - 1, by omega⟩
    show arg_Operands.l0 (k + 1) kv (kv.map textOf) ((kv.map textOf).length : Int) (kv.length : Int) = some (kv, true)
    rw [arg_Operands.l0, if_neg (by rw [List.length_map]; omega)]
  | o :: t, a, e => by
    have hlen := hg.len
    have hal : a.length + 1 ≤ kv.length := by rw [e, List.length_append, List.length_cons]; omega
    obtain ⟨hk, hv⟩ := hg.key o (by rw [e]; exact List.mem_append_right _ (List.mem_cons_self ..))
    obtain ⟨_, h61, hks⟩ := key_good o.f0 hk
    have hrd : rdOf ByteArray.empty (kv.map textOf) (a.length : Int) = textOf o := by
      rw [e]; simp [rdOf]
    have hsz : (textOf o).size < 4294967281 := by
      unfold textOf
      rw [ByteArray.size_append, ByteArray.size_append, show (⟨#[61]⟩ : ByteArray).size = 1 from rfl]; omega
    have hcut := cut_text o h61 hsz
    have ih := ops_loop kv hg t (a ++ [o]) (by rw [e, List.append_assoc]; rfl)
    have hst : ∀ k, arg_Operands.l0 (k + 1) a (kv.map textOf) ((kv.map textOf).length : Int) (a.length : Int) = (arg_key.f k o.f0).bind fun t106 => arg_Operands.j1 k a o.f0 o.f1 (kv.map textOf) ((kv.map textOf).length : Int) (a.length : Int) (!t106) := fun k => by
      rw [arg_Operands.l0, if_pos (by rw [List.length_map]; omega), if_pos (by omega), if_pos (by rw [List.length_map]; omega), hrd, hcut]
      rfl
    refine Ev.step hst (Ev.bind (key_ev hk) ?_)
    have hfind : arg_Find.f a o.f0 = some (arg_Find.g a o.f0 a.length) := rfl
    have hnew : (arg_Find.g a o.f0 a.length).2 = true → o.f0.toList = [99, 111, 110, 118] ∨ o.f0.toList = [105, 102, 108, 97, 103] := by
      intro hf
      rcases nine_or o.f0 hk with h9 | h9
      · exfalso
        rw [find_sel] at hf
        cases hl : (sel o.f0 a).getLast? with
        | none => rw [hl] at hf; cases hf
        | some q =>
          have hq : sel o.f0 a ≠ [] := fun e2 => by rw [e2] at hl; cases hl
          have h1 := hg.one o.f0 h9
          rw [e, sel_app, List.length_append] at h1
          have h2 : 0 < (sel o.f0 a).length := List.length_pos_iff.2 hq
          have h3 : 0 < (sel o.f0 (o :: t)).length := List.length_pos_iff.2 (fun e2 => by have := sel_mem (List.mem_cons_self ..) rfl (l := o :: t) (o := o); rw [e2] at this; cases this)
          omega
      · exact h9
    have hl4 : a.length < 4398046511104 := by omega
    have hst2 : ∀ k, arg_Operands.j1 (k + 1) a o.f0 o.f1 (kv.map textOf) ((kv.map textOf).length : Int) (a.length : Int) (!true) = arg_Operands.l0 k (a ++ [o]) (kv.map textOf) ((kv.map textOf).length : Int) ((a ++ [o]).length : Int) := fun k => by
      rw [arg_Operands.j1, if_neg (by simp), hfind, Option.bind_some, wrapS _ (by omega)]
      have eo : (⟨o.f0, o.f1⟩ : S60) = o := rfl
      have el : (((a ++ [o]).length : Nat) : Int) = ((a.length + 1 : Nat) : Int) := by rw [List.length_append]; rfl
      rw [eo, el, if_pos hl4]
      by_cases hf : (arg_Find.g a o.f0 a.length).2 = true
      · rw [if_pos hf]
        rcases hnew hf with h | h
        · rw [if_pos h]
        · rw [if_neg (by rw [h]; decide), if_pos h]
      · rw [if_neg hf]
    exact Ev.step hst2 ih
theorem ops_ev (kv : List S60) (hg : Good kv) : Ev (fun k => arg_Operands.f k (kv.map textOf)) (kv, true) := by
  have h := ops_loop kv hg kv [] rfl
  refine Ev.congr (fun k => ?_) h
  unfold arg_Operands.f
  rw [if_neg (by rw [List.length_map]; have := hg.len; omega)]; rfl
theorem inS_key : ∀ key ∈ keysW, inS keysW key = true := by
  intro key h
  simp only [keysW, List.mem_cons, List.mem_nil_iff, or_false] at h
  rcases h with rfl | rfl | rfl | rfl | rfl | rfl | rfl | rfl | rfl | rfl | rfl <;> decide +kernel
theorem only_kv (kv : List S60) (hg : Good kv) : arg_Only.f kv keysW = some true := by
  unfold arg_Only.f
  rw [if_pos ⟨by have := hg.len; omega, by decide⟩]
  have : outF keysW kv = false := by
    unfold outF
    rw [List.any_eq_false]
    intro o ho
    rw [inS_key o.f0 (hg.key o ho).1]; simp
  rw [this]; rfl
/-- What Parse answers. -/
theorem parse_kv (kv : List S60) (hg : Good kv) {r : PL × Int} (h : Ev (fun k => knownF k kv) r) : Ev (fun k => parseF k (kv.map textOf)) r := by
  unfold parseF
  refine Ev.bind (ops_ev kv hg) ?_
  simp only [if_true]
  rw [only_kv kv hg]
  simp only [Option.bind_some, if_true]
  exact h
theorem guard_kv (kv : List S60) (hg : Good kv) : kv.length ≤ 1000000 ∧ kv.all (fun x => decide (x.f1.size < 4294967281)) = true :=
  ⟨by have := hg.len; omega, List.all_eq_true.2 fun o ho => decide_eq_true (by have := (hg.key o ho).2; omega)⟩
end Go.Proofs.YtbmhfnncagncmaaDoor.PureO
