/- Plain laws of dd's operands: the law's loop sets the words of conv aside. No program in sight. No conditions beyond those that the lemmas name. -/
import Derived.Test.YtbmhfnncagncmaaDoorPx0
import Derived.Test.YtbmhfnncagncmaaDoorOrdG
import Derived.Test.YtbmhfnncagncmaaDoorOrdP
namespace Go.Proofs.YtbmhfnncagncmaaDoor.PureO
open Go.RowKit Go.Proofs.YtbmhfnncagncmaaDoorW.PrintWords Go.Proofs.YtbmhfnncagncmaaDoorW.PrintLast Go.Proofs.YtbmhfnncagncmaaDoor.P
set_option linter.unusedVariables false
set_option linter.unusedSimpArgs false
theorem wrapN (n : Nat) (h : n ≤ 1000) : wrap64 ((n : Int) + 1) = ((n + 1 : Nat) : Int) := by unfold wrap64; omega
theorem jn_toList {ws : List ByteArray} (hw : ∀ w ∈ ws, 0 < w.size) : (jn ws).toList = [] ↔ ws = [] := by
  refine ⟨jn_nil hw, fun h => ?_⟩
  rw [h]
  decide +kernel
theorem at_mid (x y : List S60) (o : S60) : rdOf ByteArray.empty ((x ++ o :: y).map textOf) (x.length : Int) = textOf o := by
  simp [rdOf]
theorem loop_conv (A C : List S60) (hA : Up 10 A) (hC : Cv C) : ∀ (t c : List S60), C = c ++ t → Ev (fun k => ordL k ((A ++ C).map textOf) (A.map textOf) (jn (c.map (·.f1))) ((A ++ c).length : Int)) (A.map textOf, jn (C.map (·.f1)))
  | [], c, e => by
    rw [List.append_nil] at e
    subst e
    refine Ev.step (f := fun _ => some (A.map textOf, jn (C.map (·.f1)))) (fun k => ?_) (Ev.now _)
    rw [ordL, if_neg (by rw [List.length_map]; omega)]
  | o :: t, c, e => by
    have hl := hA.len
    have hc := hC.len
    have ho : o ∈ C := by rw [e]; exact List.mem_append_right _ (List.mem_cons_self ..)
    obtain ⟨hk, hv⟩ := hC.key o ho
    obtain ⟨_, hp, hz⟩ := conv_words _ hv
    have hn : (A ++ c).length + 1 ≤ (A ++ C).length := by rw [e, List.length_append, List.length_append, List.length_append, List.length_cons]; omega
    have hm : (A ++ C).length ≤ 25 := by rw [List.length_append]; omega
    have hcw : ∀ w ∈ c.map (·.f1), 0 < w.size ∧ w.size ≤ 10 := fun w h => by
      obtain ⟨q, hq, rfl⟩ := List.mem_map.1 h
      exact (conv_words _ (hC.key q (by rw [e]; exact List.mem_append_left _ hq)).2).2
    have hjs : (jn (c.map (·.f1))).size ≤ 1000 := by
      have h1 := jn_size fun w h => (hcw w h).2
      rw [List.length_map] at h1
      have : c.length ≤ 15 := by rw [e, List.length_append] at hc; omega
      omega
    have hrd : rdOf ByteArray.empty ((A ++ C).map textOf) ((A ++ c).length : Int) = textOf o := by
      rw [e, ← List.append_assoc]
      exact at_mid (A ++ c) t o
    have hsz := conv_size hk
    have ih := loop_conv A C hA hC t (c ++ [o]) (by rw [e, List.append_assoc]; rfl)
    have h1 : ∀ k, ordL (k + 1) ((A ++ C).map textOf) (A.map textOf) (jn (c.map (·.f1))) ((A ++ c).length : Int) = ordJ k ((A ++ C).map textOf) (A.map textOf) (jn (c.map (·.f1))) ((A ++ c).length : Int) true := fun k => by
      rw [ordL, if_pos (by rw [List.length_map]; omega), if_pos (by omega), hrd, if_pos (by rw [hsz]; omega), if_pos (by decide), if_pos (by rw [hsz]; omega), first_conv hk]
    refine Ev.step h1 ?_
    have hi : (((A ++ (c ++ [o])).length : Nat) : Int) = (((A ++ c).length + 1 : Nat) : Int) := by
      rw [List.length_append, List.length_append, List.length_append]
      simp only [List.length_cons, List.length_nil]
      omega
    refine Ev.step (f := fun k => ordL k ((A ++ C).map textOf) (A.map textOf) (jn ((c ++ [o]).map (·.f1))) (((A ++ (c ++ [o])).length : Nat) : Int)) (fun k => ?_) ih
    rw [hi, ordJ, if_pos rfl, hrd, rest_conv hk, wrapN _ (by omega)]
    by_cases h0 : c = []
    · have hj : jn (c.map (·.f1)) = (⟨#[]⟩ : ByteArray) := by rw [h0]; rfl
      have he : jn ((c ++ [o]).map (·.f1)) = jn (c.map (·.f1)) ++ o.f1 := by
        rw [hj, h0]
        show o.f1 = ByteArray.empty ++ o.f1
        rw [ByteArray.empty_append]
      have hjz : (jn (c.map (·.f1))).size = 0 := by rw [hj]; rfl
      rw [if_pos ((jn_toList fun w h => (hcw w h).1).2 (by rw [h0]; rfl)), if_pos (by omega), if_pos (by rw [List.length_map]; omega), if_pos (by rw [hsz]; omega), if_pos (by omega), he]
    · have he : jn ((c ++ [o]).map (·.f1)) = (jn (c.map (·.f1)) ++ comma) ++ o.f1 := by
        rw [List.map_append]
        exact jn_snoc o.f1 (c.map (·.f1)) (by simpa using h0)
      rw [if_neg (fun h => h0 (by simpa using (jn_toList fun w h => (hcw w h).1).1 h)), if_pos (by omega), if_pos (by omega), if_pos (by rw [List.length_map]; omega), if_pos (by rw [hsz]; omega), if_pos (by rw [ByteArray.size_append, show (⟨#[44]⟩ : ByteArray).size = 1 from rfl]; omega), he]
      rfl
theorem loop_rest (A C : List S60) (hA : Up 10 A) (hC : Cv C) : ∀ (t a : List S60), A = a ++ t → Ev (fun k => ordL k ((A ++ C).map textOf) (a.map textOf) (⟨#[]⟩ : ByteArray) (a.length : Int)) (A.map textOf, jn (C.map (·.f1)))
  | [], a, e => by
    rw [List.append_nil] at e
    subst e
    have := loop_conv A C hA hC C [] rfl
    rwa [List.append_nil] at this
  | o :: t, a, e => by
    have hl := hA.len
    have hc := hC.len
    have ho : o ∈ A := by rw [e]; exact List.mem_append_right _ (List.mem_cons_self ..)
    have hn : a.length + 1 ≤ (A ++ C).length := by rw [e, List.length_append, List.length_append, List.length_cons]; omega
    have hm : (A ++ C).length ≤ 25 := by rw [List.length_append]; omega
    have hrd : rdOf ByteArray.empty ((A ++ C).map textOf) (a.length : Int) = textOf o := by
      rw [e, List.append_assoc]
      exact at_mid a (t ++ C) o
    have ih := loop_rest A C hA hC t (a ++ [o]) (by rw [e, List.append_assoc]; rfl)
    have h1 : ∀ k, ordL (k + 1) ((A ++ C).map textOf) (a.map textOf) (⟨#[]⟩ : ByteArray) (a.length : Int) = ordJ k ((A ++ C).map textOf) (a.map textOf) (⟨#[]⟩ : ByteArray) (a.length : Int) false := fun k => by
      rw [ordL, if_pos (by rw [List.length_map]; omega), if_pos (by omega), hrd, first_rest (hA.mem ho)]
      by_cases c : ((textOf o).size : Int) > 5
      · rw [if_pos c, if_pos (by decide), if_pos (by omega)]
      · rw [if_neg c]
    refine Ev.step h1 ?_
    have hi : (((a ++ [o]).length : Nat) : Int) = ((a.length + 1 : Nat) : Int) := by rw [List.length_append]; rfl
    refine Ev.step (f := fun k => ordL k ((A ++ C).map textOf) ((a ++ [o]).map textOf) (⟨#[]⟩ : ByteArray) (((a ++ [o]).length : Nat) : Int)) (fun k => ?_) ih
    rw [hi, ordJ, if_neg (by decide), if_pos (by omega), if_pos (by rw [List.length_map]; omega), if_pos (by rw [List.length_map]; omega), hrd, wrapN _ (by omega), map_snoc]
/-- The parts of the law, all at one bound. -/
theorem order_parts (a0 a1 a2 a3 a4 a5 a6 a7 a8 a9 a10 at' : Int) (h : ∀ x ∈ [a0, a1, a2, a3, a4, a5, a6, a7, a8], 0 ≤ x ∧ x ≤ 255) (h1 : 0 ≤ at') (h2 : at' ≤ 255) : ∃ (k : Nat) (l : List ByteArray) (p : PL) (rc : Int) (mm : List ByteArray) (cv : ByteArray) (ji : Int),
    salvorkeep_Dd_Args.f k a0 a1 a2 a3 a4 a5 a6 a7 a8 a9 a10 false = some l ∧ ¬ (l.length : Int) = 0 ∧ l.length ≤ 1000 ∧ parseF k l = some (p, rc) ∧ Int.tmod (wrap64 at') (l.length : Int) = ji ∧ 0 ≤ ji ∧ ji ≤ (l.length : Int) ∧ parseF k ((([] : List ByteArray) ++ l.drop ji.toNat) ++ l.take ji.toNat) = some (p, rc) ∧ ordL k l [] (⟨#[]⟩ : ByteArray) 0 = some (mm, cv) ∧
    (if cv.toList = ([] : List UInt8) then parseF k mm = some (p, rc) else parseF k (mm ++ [(⟨#[99, 111, 110, 118, 61]⟩ : ByteArray) ++ cv, (⟨#[99, 111, 110, 118, 61]⟩ : ByteArray) ++ cv]) = some (p, rc)) ∧ mm.length ≤ 1000 ∧ cv.size ≤ 1000 := by
  obtain ⟨A, C, hA, h2l, hC, hE⟩ := args_ev a0 a1 a2 a3 a4 a5 a6 a7 a8 a9 a10 h
  have hg := kv_good hA hC
  obtain ⟨r, hr⟩ := known_V (A ++ C) hg (kv_V hA hC)
  obtain ⟨p, rc⟩ := r
  have hlen : ((A ++ C).map textOf).length = A.length + C.length := by rw [List.length_map, List.length_append]
  have hAl := hA.len
  have hCl := hC.len
  have hcw : ∀ w ∈ C.map (·.f1), 0 < w.size ∧ w.size ≤ 10 := fun w h => by
    obtain ⟨q, hq, rfl⟩ := List.mem_map.1 h
    exact (conv_words _ (hC.key q hq).2).2
  have hw : wrap64 at' = at' := by unfold wrap64; omega
  have hj0 : 0 ≤ Int.tmod (wrap64 at') (((A ++ C).map textOf).length : Int) := by
    rw [hw]
    exact Int.tmod_nonneg _ h1
  have hj1 : Int.tmod (wrap64 at') (((A ++ C).map textOf).length : Int) ≤ (((A ++ C).map textOf).length : Int) := by
    rw [hw]
    have : (0 : Int) < (((A ++ C).map textOf).length : Int) := by omega
    exact Int.le_of_lt (Int.tmod_lt_of_pos _ this)
  have e1 := parse_kv _ hg hr
  have e2 := turn_ev hA hC (Int.tmod (wrap64 at') (((A ++ C).map textOf).length : Int)).toNat hr
  have e3 := loop_rest A C hA hC A [] rfl
  have hcs : (jn (C.map (·.f1))).size ≤ 1000 := by
    have := jn_size fun w h => (hcw w h).2
    rw [List.length_map] at this
    omega
  have hjn := jn_toList (ws := C.map (·.f1)) fun w h => (hcw w h).1
  by_cases hc0 : C = []
  · have e4 : Ev (fun k => parseF k (A.map textOf)) (p, rc) := by
      have := e1
      rw [hc0, List.append_nil] at this
      exact this
    obtain ⟨K0, f0⟩ := hE
    obtain ⟨K1, f1⟩ := e1
    obtain ⟨K2, f2⟩ := e2
    obtain ⟨K3, f3⟩ := e3
    obtain ⟨K4, f4⟩ := e4
    refine ⟨K0 + K1 + K2 + K3 + K4, _, p, rc, _, _, _, f0 _ (by omega), by omega, by omega, f1 _ (by omega), rfl, hj0, hj1, ?_, f3 _ (by omega), ?_, by rw [List.length_map]; omega, hcs⟩
    · rw [List.nil_append]
      exact f2 _ (by omega)
    · rw [if_pos (hjn.2 (by rw [hc0]; rfl))]
      exact f4 _ (by omega)
  · have e4 := join_ev hA hC hc0 hr
    obtain ⟨K0, f0⟩ := hE
    obtain ⟨K1, f1⟩ := e1
    obtain ⟨K2, f2⟩ := e2
    obtain ⟨K3, f3⟩ := e3
    obtain ⟨K4, f4⟩ := e4
    refine ⟨K0 + K1 + K2 + K3 + K4, _, p, rc, _, _, _, f0 _ (by omega), by omega, by omega, f1 _ (by omega), rfl, hj0, hj1, ?_, f3 _ (by omega), ?_, by rw [List.length_map]; omega, hcs⟩
    · rw [List.nil_append]
      exact f2 _ (by omega)
    · rw [if_neg (fun h => hc0 (by simpa using hjn.1 h))]
      exact f4 _ (by omega)
end Go.Proofs.YtbmhfnncagncmaaDoor.PureO
