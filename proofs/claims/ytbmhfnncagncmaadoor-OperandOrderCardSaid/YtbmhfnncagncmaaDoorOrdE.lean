/- Plain laws of dd's operands: Parse comes to an answer on operands whose values are small. No program in sight. No conditions beyond those that the lemmas name. -/
import Derived.Test.YtbmhfnncagncmaaDoorPx0
import Derived.Test.YtbmhfnncagncmaaDoorPx4
import Derived.Test.YtbmhfnncagncmaaDoorPx9
import Derived.Test.YtbmhfnncagncmaaDoorPx10
import Derived.Test.YtbmhfnncagncmaaDoorPx11
import Derived.Test.YtbmhfnncagncmaaDoorPx17
import Derived.Test.YtbmhfnncagncmaaDoorPx18
import Derived.Test.YtbmhfnncagncmaaDoorPx19
import Derived.Test.YtbmhfnncagncmaaDoorPx20
import Derived.Test.YtbmhfnncagncmaaDoorOrdC
-- names: num_Get.f image_MayName.f off_Mul.f off_all.f off_May.f conv_May.f operand_may.f conv_two.f conv_blocks.f conv_unblocks.f
namespace Go.Proofs.YtbmhfnncagncmaaDoor.PureO
open Go.RowKit Go.Proofs.YtbmhfnncagncmaaDoorW.PrintWords Go.Proofs.YtbmhfnncagncmaaDoorW.PrintLast Go.Proofs.YtbmhfnncagncmaaDoor.P
set_option linter.unusedVariables false
set_option linter.unusedSimpArgs false
def numB (s : ByteArray) : Bool := match num_Get.f 100 s with
  | some (x, _) => decide (0 ≤ x) && decide (x ≤ 4096)
  | none => false
theorem num_all : ∀ s ∈ V, numB s = true := by
  have h : V.all numB = true := by decide +kernel
  exact List.all_eq_true.1 h
theorem name_all : ∀ s ∈ V, (image_MayName.f 60 s).isSome = true := by
  have h : V.all (fun s => (image_MayName.f 60 s).isSome) = true := by decide +kernel
  exact List.all_eq_true.1 h
/-- A small number. -/
def Sm (x : Int) : Prop := 0 ≤ x ∧ x ≤ 4096
theorem get_V {s : ByteArray} (h : s ∈ V) : ∃ x b, Ev (fun k => num_Get.f k s) (x, b) ∧ Sm x := by
  have := num_all s h
  unfold numB at this
  cases e : num_Get.f 100 s with
  | none => rw [e] at this; cases this
  | some y =>
    obtain ⟨x, b⟩ := y
    rw [e] at this
    simp only [Bool.and_eq_true, decide_eq_true_eq] at this
    exact ⟨x, b, Ev.of (fun k => num_Get.mono _ _) e, this⟩
theorem name_V {s : ByteArray} (h : s ∈ V) : ∃ b, Ev (fun k => image_MayName.f k s) b := by
  obtain ⟨b, hb⟩ := Option.isSome_iff_exists.1 (name_all s h)
  exact ⟨b, Ev.of (fun k => image_MayName.mono _ _) hb⟩
theorem find_V {kv : List S60} (hv : ∀ o ∈ kv, o.f1 ∈ V) (key : ByteArray) : (arg_Find.g kv key kv.length).1 ∈ V := by
  rw [find_sel]
  cases hl : (sel key kv).getLast? with
  | none => unfold V; exact List.mem_append_left _ (List.mem_cons_self ..)
  | some o => exact hv o ((List.mem_filter.1 (List.mem_of_getLast? hl)).1)
theorem numT_V {kv : List S60} (hv : ∀ o ∈ kv, o.f1 ∈ V) (key : ByteArray) (wo : Int) (hw : Sm wo) : ∃ x b, Ev (fun k => numT k kv key wo) (x, b) ∧ Sm x := by
  unfold numT
  by_cases h : (arg_Find.g kv key kv.length).2 = true
  · simp only [if_pos h]
    exact get_V (find_V hv key)
  · simp only [if_neg h]
    exact ⟨wo, true, Ev.now _, hw⟩
theorem Ev.map' {α β : Type} {g : Nat → Option α} {a : α} (h : Ev g a) (f : α → β) : Ev (fun k => (g k).map f) (f a) := by
  obtain ⟨K, hK⟩ := h
  exact ⟨K, fun k hk => by show (g k).map f = _; rw [hK k hk]; rfl⟩
theorem sizeT_V {kv : List S60} (hv : ∀ o ∈ kv, o.f1 ∈ V) (key : ByteArray) (wo : Int) (hw : Sm wo) : ∃ x b, Ev (fun k => sizeT k kv key wo) (x, b) ∧ Sm x := by
  obtain ⟨x, b, h, hx⟩ := numT_V hv key wo hw
  exact ⟨x, _, Ev.map' h _, hx⟩
theorem nameT_V {kv : List S60} (hv : ∀ o ∈ kv, o.f1 ∈ V) (key : ByteArray) (ok : Bool) : ∃ n, Ev (fun k => nameT k kv key ok) n := by
  unfold nameT
  cases ok with
  | false => exact ⟨_, Ev.now _⟩
  | true =>
    obtain ⟨b, hb⟩ := name_V (find_V hv key)
    simp only [if_true]
    exact ⟨_, Ev.map' hb _⟩
theorem sizesF_V {kv : List S60} (hv : ∀ o ∈ kv, o.f1 ∈ V) (p : PL) (ok : Bool) : ∃ q b, Ev (fun k => sizesF k kv p ok) (q, b) ∧ Sm q.skip ∧ Sm q.seek ∧ Sm q.ibs ∧ Sm q.obs := by
  have h0 : Sm 0 := ⟨by decide, by decide⟩
  have h5 : Sm 512 := ⟨by decide, by decide⟩
  obtain ⟨x1, b1, e1, s1⟩ := sizeT_V hv (⟨#[105, 98, 115]⟩ : ByteArray) 512 h5
  obtain ⟨x2, b2, e2, s2⟩ := sizeT_V hv (⟨#[111, 98, 115]⟩ : ByteArray) 512 h5
  obtain ⟨x3, b3, e3, s3⟩ := sizeT_V hv (⟨#[99, 98, 115]⟩ : ByteArray) 0 h0
  obtain ⟨x4, b4, e4, s4⟩ := sizeT_V hv (⟨#[98, 115]⟩ : ByteArray) 0 h0
  obtain ⟨x5, b5, e5, s5⟩ := numT_V hv (⟨#[115, 107, 105, 112]⟩ : ByteArray) 0 h0
  obtain ⟨x6, b6, e6, s6⟩ := numT_V hv (⟨#[115, 101, 101, 107]⟩ : ByteArray) 0 h0
  obtain ⟨x7, b7, e7, s7⟩ := numT_V hv (⟨#[99, 111, 117, 110, 116]⟩ : ByteArray) 0 h0
  unfold sizesF
  refine ⟨_, _, Ev.bind e1 (Ev.bind e2 (Ev.bind e3 (Ev.bind e4 (Ev.bind e5 (Ev.bind e6 (Ev.bind e7 (Ev.now _))))))), s5, s6, ?_, ?_⟩
  · show Sm (if hasT kv ⟨#[98, 115]⟩ = true then x4 else x1)
    split
    · exact s4
    · exact s1
  · show Sm (if hasT kv ⟨#[98, 115]⟩ = true then x4 else x2)
    split
    · exact s4
    · exact s2
theorem offmay {a : Int} (h : Sm a) : off_May.f a = some true := by
  unfold Sm at h
  unfold off_May.f
  rw [if_pos (by omega), decide_eq_true (by omega)]
theorem rd0 (a b : Int) : rd [a, b] 0 = a := rfl
theorem rd1 (a b : Int) : rd [a, b] 1 = b := rfl
theorem w1 : wrap64 (0 + 1) = 1 := by decide +kernel
theorem w2 : wrap64 (1 + 1) = 2 := by decide +kernel
theorem offall {a b : Int} (ha : Sm a) (hb : Sm b) (k : Nat) : off_all.f (k + 3) [a, b] = some true := by
  unfold off_all.f
  show off_all.l0 (k + 3) [a, b] 2 0 = some true
  rw [off_all.l0, if_pos (by decide), if_pos (by decide), if_pos (by show (0 : Int) < 2; decide), rd0, offmay ha, Option.bind_some, if_pos rfl, w1, off_all.l0, if_pos (by decide), if_pos (by decide), if_pos (by show (1 : Int) < 2; decide), rd1, offmay hb, Option.bind_some, if_pos rfl, w2, off_all.l0, if_neg (by decide)]
theorem mul_last (x : Int) (l : List Int) (k : Nat) : off_Mul.l1 (k + 1) x l 2 2 = some (x, true) := by rw [off_Mul.l1, if_neg (by decide)]
theorem mul_some {a b : Int} (ha : Sm a) (hb : Sm b) : ∃ m, off_Mul.f 20 [a, b] = some m := by
  have ha' := ha
  have hb' := hb
  unfold Sm at ha' hb'
  unfold off_Mul.f
  rw [offall ha hb, Option.bind_some, if_pos rfl]
  show ∃ m, off_Mul.l0 20 [a, b] [a, b] 2 0 = some m
  rw [off_Mul.l0, if_pos (by decide), if_pos (by decide), if_pos (by show (0 : Int) < 2; decide), rd0]
  by_cases h0 : a = 0
  · rw [if_pos h0]; exact ⟨_, rfl⟩
  rw [if_neg h0, w1, off_Mul.l0, if_pos (by decide), if_pos (by decide), if_pos (by show (1 : Int) < 2; decide), rd1]
  by_cases h1 : b = 0
  · rw [if_pos h1]; exact ⟨_, rfl⟩
  rw [if_neg h1, w2, off_Mul.l0, if_neg (by decide)]
  show ∃ m, off_Mul.l1 17 1 [a, b] 2 0 = some m
  rw [off_Mul.l1, if_pos (by decide), if_pos (by decide), if_pos (by show (0 : Int) < 2; decide), if_neg (by decide), rd0, w1]
  by_cases c : a > wrap64 ((4611686018427387904 : Int) / 1)
  · rw [if_pos c]; exact ⟨_, rfl⟩
  have hw : wrap64 (1 * a) = a := by unfold wrap64; omega
  rw [if_neg c, hw, off_Mul.l1, if_pos (by decide), if_pos (by decide), if_pos (by show (1 : Int) < 2; decide), if_neg h0, rd1, w2]
  by_cases d : b > wrap64 ((4611686018427387904 : Int) / a)
  · rw [if_pos d]; exact ⟨_, rfl⟩
  rw [if_neg d]
  exact ⟨_, mul_last _ _ _⟩
theorem convs_some (b0 b1 b2 b3 b4 b5 b6 b7 : Bool) (c : Int) : ∃ r, conv_May.f 20 b0 b1 b2 b3 b4 b5 b6 b7 c = some r := by
  have h3 : conv_May.f 20 b0 b1 b2 b3 b4 b5 b6 b7 c = if ((b3 && b4) || (b5 && b6) || (b5 && b7) || (b6 && b7) || ((b1 || b6 || b7) && (b2 || b5))) = true then some false else if c ≥ (if (b1 || b6 || b7 || b2 || b5) = true then (1 : Int) else 0) then some (decide (c ≤ 4096)) else some false := by
    cases b0 <;> cases b1 <;> cases b2 <;> cases b3 <;> cases b4 <;> cases b5 <;> cases b6 <;> cases b7 <;> (show _ = _; kernel_rfl)
  rw [h3]
  split
  · exact ⟨_, rfl⟩
  · generalize (if (b1 || b6 || b7 || b2 || b5) = true then (1 : Int) else 0) = z
    by_cases h : c ≥ z
    · rw [if_pos h]; exact ⟨_, rfl⟩
    · rw [if_neg h]; exact ⟨_, rfl⟩
theorem may_some (p : PL) (h1 : Sm p.skip) (h2 : Sm p.seek) (h3 : Sm p.ibs) (h4 : Sm p.obs) : ∃ b, mayF 20 p = some b := by
  obtain ⟨m1, e1⟩ := mul_some h1 h3
  obtain ⟨m2, e2⟩ := mul_some h2 h4
  obtain ⟨c, ec⟩ := convs_some p.swab p.block p.unblock p.lcase p.ucase p.ascii p.ebcdic p.ibm p.cbs
  refine Option.isSome_iff_exists.1 ?_
  unfold mayF operand_may.f
  rw [e1, e2, ec]
  simp only [Option.bind_some]
  (repeat' split) <;> rfl
theorem may_V (p : PL) (h1 : Sm p.skip) (h2 : Sm p.seek) (h3 : Sm p.ibs) (h4 : Sm p.obs) : ∃ b, Ev (fun k => mayF k p) b := by
  obtain ⟨b, hb⟩ := may_some p h1 h2 h3 h4
  exact ⟨b, Ev.of (fun k => operand_may.mono _ _ _ _ _ _ _ _ _ _ _ _ _ _ _ _ _ _ _ _ _ _ _ _ _ _ _) hb⟩
theorem flags_num (l : List S60) (p : PL) (b : Bool) : (flagsF l (p, b)).1.skip = p.skip ∧ (flagsF l (p, b)).1.seek = p.seek ∧ (flagsF l (p, b)).1.ibs = p.ibs ∧ (flagsF l (p, b)).1.obs = p.obs := by
  unfold flagsF
  rw [out_eq, out_eq, conv_in, iflag_in]
  exact ⟨rfl, rfl, rfl, rfl⟩
theorem tail_V (o : List S60) (p : PL) (b : Bool) (h1 : Sm p.skip) (h2 : Sm p.seek) (h3 : Sm p.ibs) (h4 : Sm p.obs) : ∃ r, Ev (fun k => tailF k o (flagsF o (p, b))) r := by
  obtain ⟨f1, f2, f3, f4⟩ := flags_num o p b
  obtain ⟨m, hm⟩ := may_V (flagsF o (p, b)).1 (by rw [f1]; exact h1) (by rw [f2]; exact h2) (by rw [f3]; exact h3) (by rw [f4]; exact h4)
  unfold tailF
  by_cases c : (flagsF o (p, b)).2 = true
  · simp only [if_pos c]
    cases m with
    | true => exact ⟨_, Ev.bind hm (by simp only [if_true]; exact Ev.now _)⟩
    | false => exact ⟨(zeroPL, 2), Ev.bind hm (Ev.congr (fun k => if_neg (by simp)) (Ev.now _))⟩
  · simp only [if_neg c]
    exact ⟨_, Ev.now _⟩
/-- Parse comes to an answer. -/
theorem known_V (kv : List S60) (hg : Good kv) (hv : ∀ o ∈ kv, o.f1 ∈ V) : ∃ r, Ev (fun k => knownF k kv) r := by
  obtain ⟨n1, e1⟩ := nameT_V hv (⟨#[105, 102]⟩ : ByteArray) true
  obtain ⟨n2, e2⟩ := nameT_V hv (⟨#[111, 102]⟩ : ByteArray) n1.2
  obtain ⟨q, b, e3, s1, s2, s3, s4⟩ := sizesF_V hv { zeroPL with src := n1.1, dst := n2.1 } n2.2
  obtain ⟨r, e4⟩ := tail_V kv q b s1 s2 s3 s4
  refine ⟨r, ?_⟩
  have h : Ev (fun k => (nameT k kv ⟨#[105, 102]⟩ true).bind fun n1 => (nameT k kv ⟨#[111, 102]⟩ n1.2).bind fun n2 => (sizesF k kv { zeroPL with src := n1.1, dst := n2.1 } n2.2).bind fun s => tailF k kv (flagsF kv s)) r := Ev.bind e1 (Ev.bind e2 (Ev.bind e3 e4))
  refine Ev.congr (fun k => ?_) h
  unfold knownF
  rw [if_pos (guard_kv kv hg)]
end Go.Proofs.YtbmhfnncagncmaaDoor.PureO
