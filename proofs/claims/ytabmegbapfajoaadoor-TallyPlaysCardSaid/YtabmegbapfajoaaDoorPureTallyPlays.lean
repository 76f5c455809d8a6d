/- The pure statement of TallyPlays: whatever is counted, and its text. No conditions. -/
import Derived.Test.YtabmegbapfajoaaDoorPx9
import Derived.Test.YtabmegbapfajoaaDoorOpen
import Derived.Test.YtabmegbapfajoaaDoorDig
namespace Go.Proofs.YtabmegbapfajoaaDoor.Pure
open Go.RowKit Go.Proofs.YtabmegbapfajoaaDoorW.PrintWords Go.Proofs.YtabmegbapfajoaaDoorW.PrintLast Go.Proofs.YtabmegbapfajoaaDoorW.PrintMore Go.Proofs.YtabmegbapfajoaaDoor.P Go.Proofs.YtabmegbapfajoaaDoor.Open Go.Proofs.YtabmegbapfajoaaDoor.Num
set_option linter.unusedVariables false
set_option linter.unusedSimpArgs false

def R (x : Int) : Prop := -9223372036854775808 ≤ x ∧ x ≤ 9223372036854775807
theorem R_wf {x : Int} (h : (Lit.int .i64 x).wf = true) : R x := by
  simp only [Lit.wf, Bool.and_eq_true, decide_eq_true_eq] at h
  exact h
theorem R_wrap (x : Int) : R (wrap64 x) := by unfold R wrap64; omega
theorem dec_eq {n : Int} (h : R n) : num_Dec.f n = some (bl (Lib.itoa n)) := by unfold num_Dec.f; rw [if_pos h.1, if_pos h.2]; rfl
theorem ilen {n : Int} (h : R n) : (Lib.itoa n).length ≤ 70 := itoa_len n h.1 h.2
theorem recs_eq {a b : Int} (ha : R a) (hb : R b) (kd : List UInt8) (hk : kd.length ≤ 10) : tally_records.f a b (bl kd) = some (bl (Lib.itoa a ++ [43] ++ Lib.itoa b ++ [32, 114, 101, 99, 111, 114, 100, 115, 32] ++ kd ++ [10])) := by
  have la := ilen ha
  have lb := ilen hb
  unfold tally_records.f
  rw [dec_eq ha, dec_eq hb]
  simp only [Option.bind_some, show (⟨#[43]⟩ : ByteArray) = bl [43] from rfl, show (⟨#[10]⟩ : ByteArray) = bl [10] from rfl, show (⟨#[32, 114, 101, 99, 111, 114, 100, 115, 32]⟩ : ByteArray) = bl [32, 114, 101, 99, 111, 114, 100, 115, 32] from rfl, bl_append, bl_size]
  rw [if_pos (by omega), if_pos (by simp; omega), if_pos (by simp; omega), if_pos (by simp; omega), if_pos (by simp; omega)]
def baseL (a b c d : Int) : List UInt8 := (Lib.itoa a ++ [43] ++ Lib.itoa b ++ [32, 114, 101, 99, 111, 114, 100, 115, 32] ++ [105, 110] ++ [10]) ++ (Lib.itoa c ++ [43] ++ Lib.itoa d ++ [32, 114, 101, 99, 111, 114, 100, 115, 32] ++ [111, 117, 116] ++ [10])
def textL (a b c d e : Int) : List UInt8 := baseL a b c d ++ (if e = 0 then [] else if e = 1 then [49, 32, 116, 114, 117, 110, 99, 97, 116, 101, 100, 32, 114, 101, 99, 111, 114, 100, 10] else Lib.itoa e ++ [32, 116, 114, 117, 110, 99, 97, 116, 101, 100, 32, 114, 101, 99, 111, 114, 100, 115, 10])
theorem text_eq {a b c d e : Int} (ha : R a) (hb : R b) (hc : R c) (hd : R d) (he : R e) : tally_Text.f a b c d e = some (bl (textL a b c d e)) := by
  have la := ilen ha
  have lb := ilen hb
  have lc := ilen hc
  have ld := ilen hd
  have le := ilen he
  unfold tally_Text.f
  rw [show (⟨#[105, 110]⟩ : ByteArray) = bl [105, 110] from rfl, show (⟨#[111, 117, 116]⟩ : ByteArray) = bl [111, 117, 116] from rfl, recs_eq ha hb _ (by simp), recs_eq hc hd _ (by simp)]
  simp only [Option.bind_some, bl_append, bl_size]
  have hbl : (baseL a b c d).length ≤ 400 := by unfold baseL; simp; omega
  change (if (Lib.itoa a ++ [43] ++ Lib.itoa b ++ [32, 114, 101, 99, 111, 114, 100, 115, 32] ++ [105, 110] ++ [10]).length + _ ≤ 9223372036854775807 then (if e = 0 then some (bl (baseL a b c d)) else if e = 1 then if (baseL a b c d).length + 19 ≤ 9223372036854775807 then some (bl (baseL a b c d) ++ bl _) else none else _) else none) = _
  rw [if_pos (by simp; omega)]
  unfold textL
  by_cases e0 : e = 0
  · rw [if_pos e0, if_pos e0, List.append_nil]
  · rw [if_neg e0, if_neg e0]
    by_cases e1 : e = 1
    · rw [if_pos e1, if_pos e1, if_pos (by omega), bl_append]
    · rw [if_neg e1, if_neg e1, dec_eq he]
      simp only [Option.bind_some]
      change (if (baseL a b c d).length + (bl (Lib.itoa e)).size ≤ 9223372036854775807 then if (bl (baseL a b c d) ++ bl (Lib.itoa e)).size + 19 ≤ 9223372036854775807 then some (bl (baseL a b c d) ++ bl (Lib.itoa e) ++ bl _) else none else none) = _
      rw [bl_append, bl_append, bl_size, bl_size, if_pos (by omega), if_pos (by simp; omega), List.append_assoc]
theorem ev_ite {α : Type} {c : Prop} [Decidable c] {f g : Nat → Option α} {v : α} (h1 : c → Ev f v) (h2 : ¬ c → Ev g v) : Ev (fun k => if c then f k else g k) v := by
  by_cases h : c
  · simp only [h, if_true]; exact h1 h
  · simp only [h, if_false]; exact h2 h
theorem reftext_ev {a b c d e : Int} (ha : R a) (hb : R b) (hc : R c) (hd : R d) (he : R e) : Ev (fun k => salvorref22_Text.f k a b c d e) (bl (textL a b c d e)) := by
  have la := ilen ha
  have lb := ilen hb
  have lc := ilen hc
  have ld := ilen hd
  have le := ilen he
  have hbl : (baseL a b c d).length ≤ 400 := by unfold baseL; simp; omega
  unfold salvorref22_Text.f
  refine Ev.bind (refdec_ev a ha.1 ha.2) ?_
  refine ev_ite (fun _ => ?_) (fun h => absurd (by rw [bl_size]; omega) h)
  refine Ev.bind (refdec_ev b hb.1 hb.2) ?_
  simp only [show (⟨#[43]⟩ : ByteArray) = bl [43] from rfl, show (⟨#[32, 114, 101, 99, 111, 114, 100, 115, 32, 105, 110, 10]⟩ : ByteArray) = bl [32, 114, 101, 99, 111, 114, 100, 115, 32, 105, 110, 10] from rfl, show (⟨#[32, 114, 101, 99, 111, 114, 100, 115, 32, 111, 117, 116, 10]⟩ : ByteArray) = bl [32, 114, 101, 99, 111, 114, 100, 115, 32, 111, 117, 116, 10] from rfl, show (⟨#[49, 32, 116, 114, 117, 110, 99, 97, 116, 101, 100, 32, 114, 101, 99, 111, 114, 100, 10]⟩ : ByteArray) = bl [49, 32, 116, 114, 117, 110, 99, 97, 116, 101, 100, 32, 114, 101, 99, 111, 114, 100, 10] from rfl, show (⟨#[32, 116, 114, 117, 110, 99, 97, 116, 101, 100, 32, 114, 101, 99, 111, 114, 100, 115, 10]⟩ : ByteArray) = bl [32, 116, 114, 117, 110, 99, 97, 116, 101, 100, 32, 114, 101, 99, 111, 114, 100, 115, 10] from rfl, bl_append]
  refine ev_ite (fun _ => ?_) (fun h => absurd (by rw [bl_size, bl_size]; simp; omega) h)
  refine ev_ite (fun _ => ?_) (fun h => absurd (by rw [bl_size]; simp; omega) h)
  refine Ev.bind (refdec_ev c hc.1 hc.2) ?_
  simp only [bl_append]
  refine ev_ite (fun _ => ?_) (fun h => absurd (by rw [bl_size, bl_size]; simp; omega) h)
  refine ev_ite (fun _ => ?_) (fun h => absurd (by rw [bl_size]; simp; omega) h)
  refine Ev.bind (refdec_ev d hd.1 hd.2) ?_
  simp only [bl_append]
  refine ev_ite (fun _ => ?_) (fun h => absurd (by rw [bl_size, bl_size]; simp; omega) h)
  refine ev_ite (fun _ => ?_) (fun h => absurd (by rw [bl_size]; simp; omega) h)
  have hB : Lib.itoa a ++ [43] ++ Lib.itoa b ++ [32, 114, 101, 99, 111, 114, 100, 115, 32, 105, 110, 10] ++ Lib.itoa c ++ [43] ++ Lib.itoa d ++ [32, 114, 101, 99, 111, 114, 100, 115, 32, 111, 117, 116, 10] = baseL a b c d := by unfold baseL; simp
  rw [hB]
  unfold textL
  by_cases e0 : e = 0
  · simp only [e0, if_true, List.append_nil]; exact Ev.now _
  · simp only [e0, if_false]
    by_cases e1 : e = 1
    · simp only [e1, if_true]
      refine ev_ite (fun _ => Ev.now _) (fun h => absurd (by rw [bl_size]; omega) h)
    · simp only [e1, if_false]
      refine Ev.bind (refdec_ev e he.1 he.2) ?_
      simp only [bl_append]
      refine ev_ite (fun _ => ?_) (fun h => absurd (by rw [bl_size, bl_size]; omega) h)
      refine ev_ite (fun _ => ?_) (fun h => absurd (by rw [bl_size]; simp; omega) h)
      rw [List.append_assoc]
      exact Ev.now _
theorem rd_mem {l : List S33} {i : Nat} (h : i < l.length) : rd_T33 l (i : Int) ∈ l := by
  unfold rd_T33
  simp [List.getD, h]
theorem plays_loop (l : List S33) (hl : l.length ≤ 200) (hwf : ∀ x ∈ l, WF33 x) {a b c d e : Int} (ha : R a) (hb : R b) (hc : R c) (hd : R d) (he : R e) : ∀ (n i : Nat) (x0 x1 x2 x3 x4 : Int), l.length - i = n → i ≤ l.length → R x0 → R x1 → R x2 → R x3 → R x4 →
    Ev (fun k => salvorlaw23_TallyPlays.l0 k l i a b c d e x0 x1 x2 x3 x4 x0 x1 x2 x3 x4) true := by
  intro n
  induction n with
  | zero =>
    intro i x0 x1 x2 x3 x4 hn hi r0 r1 r2 r3 r4
    refine Ev.step (f := fun k => _) (fun k => by rw [salvorlaw23_TallyPlays.l0, if_neg (by omega)]) ?_
    rw [text_eq r0 r1 r2 r3 r4, text_eq ha hb hc hd he]
    simp only [Option.bind_some]
    refine Ev.bind (reftext_ev r0 r1 r2 r3 r4) ?_
    simp only [if_true]
    refine Ev.bind (reftext_ev ha hb hc hd he) ?_
    simp only [if_true]
    exact Ev.now _
  | succ n ih =>
    intro i x0 x1 x2 x3 x4 hn hi r0 r1 r2 r3 r4
    have hw := hwf _ (rd_mem (l := l) (i := i) (by omega))
    have hf1 : R (rd_T33 l (i : Int)).f1 := R_wf hw.2.1
    have hnx : wrap64 ((i : Int) + 1) = ((i + 1 : Nat) : Int) := by unfold wrap64; omega
    refine Ev.step (f := fun k => _) (fun k => by rw [salvorlaw23_TallyPlays.l0, if_pos (by omega), if_pos (by omega), hnx]) ?_
    refine ev_ite (fun _ => ?_) (fun _ => ev_ite (fun _ => ?_) (fun _ => ?_))
    · unfold tally_Counter_In.f salvorref22_In.f tally_Counter_Tally.f
      by_cases g : (rd_T33 l (i : Int)).f1 = (rd_T33 l (i : Int)).f2
      · simp only [g, if_true, Option.bind_some, BEq.rfl, Bool.not_true, Bool.or_self, Bool.false_eq_true, if_false]
        exact ih (i + 1) _ _ _ _ _ (by omega) (by omega) (R_wrap _) r1 r2 r3 r4
      · simp only [g, if_false, Option.bind_some, BEq.rfl, Bool.not_true, Bool.or_self, Bool.false_eq_true]
        exact ih (i + 1) _ _ _ _ _ (by omega) (by omega) r0 (R_wrap _) r2 r3 r4
    · unfold tally_Counter_Out.f salvorref22_Out.f tally_Counter_Tally.f
      by_cases g : (rd_T33 l (i : Int)).f1 = (rd_T33 l (i : Int)).f2
      · simp only [g, if_true, Option.bind_some, BEq.rfl, Bool.not_true, Bool.or_self, Bool.false_eq_true, if_false]
        exact ih (i + 1) _ _ _ _ _ (by omega) (by omega) r0 r1 (R_wrap _) r3 r4
      · simp only [g, if_false, Option.bind_some, BEq.rfl, Bool.not_true, Bool.or_self, Bool.false_eq_true]
        exact ih (i + 1) _ _ _ _ _ (by omega) (by omega) r0 r1 r2 (R_wrap _) r4
    · unfold tally_Counter_Lines.f tally_Counter_Tally.f
      simp only [Option.bind_some, BEq.rfl, Bool.not_true, Bool.or_self, Bool.false_eq_true, if_false]
      exact ih (i + 1) _ _ _ _ _ (by omega) (by omega) r0 r1 r2 r3 hf1

theorem TallyPlays : ∀ (x0 : List S33) (x1 : S23), (∀ x_ ∈ x0, WF33 x_) → WF23 x1 → ∃ k, salvorlaw23_TallyPlays.f k x0 x1.f0 x1.f1 x1.f2 x1.f3 x1.f4 = some true := by
  intro l t hwf ht
  refine Ev.rounds ?_
  unfold salvorlaw23_TallyPlays.f
  refine ev_ite (fun _ => Ev.now _) (fun h => ?_)
  have z : R 0 := by unfold R; omega
  exact plays_loop l (by omega) hwf (R_wf ht.1) (R_wf ht.2.1) (R_wf ht.2.2.1) (R_wf ht.2.2.2.1) (R_wf ht.2.2.2.2) l.length 0 0 0 0 0 0 (by omega) (by omega) z z z z z

end Go.Proofs.YtabmegbapfajoaaDoor.Pure
