/- Plain law ArgFlags: the program's flags are the reference's. No program in sight. No conditions beyond those that the lemmas name. -/
import Derived.Test.YtlginoicaeonhaaDoorPx0
import Derived.Test.YtlginoicaeonhaaDoorPx6
import Derived.Test.YtlginoicaeonhaaDoorPx12
import Derived.Test.YtlginoicaeonhaaDoorPx14
import Derived.Test.YtlginoicaeonhaaDoorPx17
import Derived.Test.YtlginoicaeonhaaDoorPx20
import Derived.Test.YtlginoicaeonhaaDoorPx21
import Derived.Test.YtlginoicaeonhaaDoorPx22
import Derived.Test.YtlginoicaeonhaaDoorArgI
import Derived.Test.YtlginoicaeonhaaDoorPureArgOperands
import Derived.Test.YtlginoicaeonhaaDoorPureArgFinds
import Derived.Test.YtlginoicaeonhaaDoorArgG
namespace Go.Proofs.YtlginoicaeonhaaDoor.Pure
open Go.RowKit Go.Proofs.YtlginoicaeonhaaDoorW.PrintWords Go.Proofs.YtlginoicaeonhaaDoorW.PrintLast Go.Proofs.YtlginoicaeonhaaDoor.P
set_option linter.unusedVariables false
set_option linter.unusedSimpArgs false
theorem tl_data (s : ByteArray) : s.toList = s.data.toList := ByteArray.toList_eq s
theorem pre2_ext (s : ByteArray) (h : Lib.hasPrefix s.data.toList [45, 45] = true) : pre2 s = s.extract 2 s.size := by
  apply Go.WideShapes.bytes_inj
  rw [Lib.extract_to_end]
  unfold pre2 Lib.trimPrefix
  rw [if_pos h]
  simp
theorem pre1_data (s : ByteArray) (q : List UInt8) (h : s.data.toList = 45 :: q) : (pre1 s).data.toList = q := by
  unfold pre1 Lib.trimPrefix
  rw [if_pos ((hp1 _).2 ⟨q, h⟩), h]
  simp
def nextQ (fl : List S72) : Option (List ByteArray × List S31 × List ByteArray) → Option (List S31 × List ByteArray)
  | none => none
  | some x => RR fl x.1 x.2.1 x.2.2
theorem RR_consQ (fl : List S72) (s : ByteArray) (l : List ByteArray) (o : List S31) (r : List ByteArray) : RR fl (s :: l) o r = if s.toList = [45, 45] then some (o, r ++ l) else nextQ fl (oneT fl l o r s) := by
  rw [RR_cons]
  split
  · rfl
  · cases oneT fl l o r s <;> rfl
theorem res_map (fl : List S72) (r : List ByteArray) (y : Option (List ByteArray × List S31)) : nextQ fl (y.map (fun x => (x.1, x.2, r))) = nextR fl r y := by cases y <;> rfl
theorem RR_len (fl : List S72) : ∀ (n : Nat) (l : List ByteArray), l.length ≤ n → (∀ s ∈ l, s.size ≤ 1000) → ∀ o r x, RR fl l o r = some x → x.1.length + x.2.length ≤ o.length + r.length + n * 1001 := by
  intro n
  induction n with
  | zero =>
    intro l hl hs o r x h
    obtain rfl := List.length_eq_zero_iff.1 (Nat.le_zero.1 hl)
    rw [RR_nil] at h
    obtain rfl := Option.some.inj h
    exact Nat.le_add_right _ _
  | succ n ih =>
    intro l hl hs o r x h
    cases l with
    | nil =>
      rw [RR_nil] at h
      obtain rfl := Option.some.inj h
      exact Nat.le_add_right _ _
    | cons s l =>
      rw [RR_cons] at h
      rw [List.length_cons] at hl
      split at h
      · obtain rfl := Option.some.inj h
        simp only [List.length_append]
        omega
      · cases e : oneT fl l o r s with
        | none => rw [e] at h; cases h
        | some y =>
          rw [e] at h
          obtain ⟨m1, m2, m3, m4⟩ := oneT_mu e
          have := ih y.1 (by omega) (fun s hs2 => hs s (List.mem_cons_of_mem _ (m4 s hs2))) _ _ x h
          have h2 := hs s List.mem_cons_self
          omega
section
variable (a0 : ByteArray) (l1 : List ByteArray) (ha : a0.size < 4611686018427387904) (hl1 : l1.length ≤ 1000) (hs1 : ∀ s ∈ l1, s.size ≤ 1000)
include ha hl1 hs1
theorem main_ev : ∀ (D i : Nat), l1.length - i ≤ D → i ≤ l1.length → ∀ (o : List S31) (r : List ByteArray), o.length ≤ i * 1001 → r.length ≤ i → Ev (fun k => salvorref6_Flags.l0 k a0 l1 (i : Int) o r) (res (RR (FF a0 a0.size) (l1.drop i) o r)) := by
  intro D
  induction D with
  | zero =>
    intro i hD hi o r ho hr
    rw [List.drop_eq_nil_of_le (by omega), RR_nil]
    exact Ev.step (f := fun _ => some (o, r, true)) (fun k => by rw [salvorref6_Flags.l0, if_neg (by omega)]) (Ev.now _)
  | succ D ih =>
    intro i hD hi o r ho hr
    by_cases hlt : i < l1.length
    · have hsz : (l1[i]).size ≤ 1000 := hs1 _ (List.getElem_mem hlt)
      have hrd := Aside0.mk (rdg l1 i hlt)
      rw [drop_get l1 i hlt, RR_consQ]
      generalize l1[i] = s at hsz hrd ⊢
      have hK : ∀ (i' : Nat) (o' : List S31), i + 1 ≤ i' → i' ≤ l1.length → o'.length ≤ (i + 1) * 1001 → Ev (fun k => salvorref6_Flags.l0 k a0 l1 (i' : Int) o' r) (res (RR (FF a0 a0.size) (l1.drop i') o' r)) := fun i' o' h1 h2 h3 => ih i' (by omega) h2 o' r (Nat.le_trans h3 (Nat.mul_le_mul_right _ h1)) (by omega)
      have hi64 : i < 4611686018427387904 := by omega
      by_cases hdd : s.toList = [45, 45]
      · rw [if_pos hdd]
        refine Ev.step (f := fun _ => some (o, r ++ l1.drop (i + 1), true)) (fun k => ?_) (Ev.now _)
        have hlen : r.length + (l1.drop (i + 1)).length < 8796093022208 := by rw [List.length_drop]; omega
        rw [salvorref6_Flags.l0, if_pos (by omega), if_pos (by omega), hrd.out, if_pos hdd, wn i hi64, if_pos (by omega), if_pos (by omega), Int.toNat_natCast, if_pos hlen]
      · rw [if_neg hdd]
        have hsd := dl s
        by_cases hp : Lib.hasPrefix s.data.toList [45, 45] = true
        · have ht := (hp2 _).1 hp
          have h2 : 2 < s.size := by
            have l2 : (s.data.toList.take 2).length = 2 := by rw [ht]; rfl
            rw [List.length_take] at l2
            by_cases e : s.size = 2
            · exact absurd (by rw [tl_data, ← ht, List.take_of_length_le (by omega)]) hdd
            · omega
          have hone : oneT (FF a0 a0.size) (l1.drop (i + 1)) o r s = (longT (l1.drop (i + 1)) o (pre2 s)).map fun x => (x.1, x.2, r) := by
            unfold oneT
            rw [if_pos hp]
          rw [hone, res_map, pre2_ext s hp]
          have hx : ((s.extract 0 2).toList == ([45, 45] : List UInt8)) = true := by
            rw [tl_data, ext_l, List.drop_zero, ht]; rfl
          have hes : (s.extract 2 s.size).size ≤ 1000 := by
            have : (s.extract 2 s.size).data.toList.length = s.size - 2 := by rw [Lib.extract_to_end, List.length_drop, dl]
            rw [dl] at this
            omega
          have hck := cutK_size (s.extract 2 s.size)
          refine Ev.step (f := fun k => salvorref6_Flags.j2 k a0 l1 (i : Int) s true o r) (fun k => ?_) ?_
          · rw [salvorref6_Flags.l0, if_pos (by omega), if_pos (by omega), hrd.out, if_neg hdd, if_pos (by omega), if_pos (by omega), if_pos (by omega), hx]
          · have hob : ∀ x : S31, (o ++ [x]).length ≤ (i + 1) * 1001 := fun x => by rw [List.length_append, List.length_singleton]; omega
            have hol : o.length < 4398046511104 := by omega
            have h2' : (2 : Int) ≤ (s.size : Int) := by omega
            have hcut := cut_ev (s.extract 2 s.size) (by omega)
            have hlet := letters_ev (cutK (s.extract 2 s.size)) (by omega)
            refine Ev.step (f := fun k => (salvorref6_cutAt.f k (s.extract 2 s.size) 61).bind fun bt202 => ((salvorref6_letters.f k bt202.1).bind fun t205 => (if t205 = true then (if o.length < 4398046511104 then (salvorref6_Flags.l0 k a0 l1 (wrap64 ((i : Int) + 1)) (o ++ [(⟨bt202.1, bt202.2.1⟩ : S31)]) r) else (none)) else (some (([] : List (S31)), ([] : List ByteArray), false))))) (fun k => ?_) (Ev.bind hcut (Ev.bind hlet ?_))
            · rw [salvorref6_Flags.j2, if_pos rfl, if_pos h2']
            · unfold longT
              by_cases hkb : keyB (cutK (s.extract 2 s.size)) = true
              · rw [if_pos hkb]
                simp only [if_pos hkb, if_pos hol, wn i hi64]
                exact hK (i + 1) _ (Nat.le_refl _) (by omega) (hob _)
              · rw [if_neg hkb]
                simp only [if_neg hkb]
                exact Ev.now _
        · have hj2 : ∀ X, Ev (fun k => salvorref6_Flags.j2 k a0 l1 (i : Int) s false o r) X → Ev (fun k => salvorref6_Flags.l0 k a0 l1 (i : Int) o r) X := by
            intro X hX
            refine Ev.step (f := fun k => salvorref6_Flags.j2 k a0 l1 (i : Int) s false o r) (fun k => ?_) hX
            rw [salvorref6_Flags.l0, if_pos (by omega), if_pos (by omega), hrd.out, if_neg hdd]
            by_cases h2 : (s.size : Int) > 2
            · have hx : ((s.extract 0 2).toList == ([45, 45] : List UInt8)) = false := by
                rw [tl_data, ext_l, List.drop_zero]
                exact beq_eq_false_iff_ne.2 fun e => hp ((hp2 _).2 e)
              rw [if_pos h2, if_pos (by omega), if_pos (by omega), hx]
            · rw [if_neg h2]
          refine hj2 _ ?_
          clear hj2
          by_cases hq : Lib.hasPrefix s.data.toList [45] = true ∧ ¬ (pre1 s).toList = []
          · have hone : oneT (FF a0 a0.size) (l1.drop (i + 1)) o r s = (shortT (FF a0 a0.size) (pre1 s) (pre1 s).size 0 (l1.drop (i + 1)) o).map fun x => (x.1, x.2, r) := by
              unfold oneT
              rw [if_neg hp, if_pos hq]
            rw [hone, res_map]
            obtain ⟨q, hqe⟩ := (hp1 _).1 hq.1
            have hpd := pre1_data s q hqe
            have hne := hq.2
            rw [tl_data, hpd] at hne
            have hsl : s.size = q.length + 1 := by rw [← hsd, hqe, List.length_cons]
            have hql : 0 < q.length := List.length_pos_iff.2 hne
            have hps : (pre1 s).size = q.length := by rw [← dl, hpd]
            have hb0 : (bt s 0 == 45) = true := by
              have := bt_list s 0 (by rw [hqe]; exact Nat.succ_pos _)
              rw [show ((0 : Nat) : Int) = 0 from rfl] at this
              rw [this]
              simp only [hqe, List.getElem_cons_zero]
              rfl
            refine Ev.step (f := fun k => salvorref6_Flags.j3 k a0 l1 (i : Int) s true o r) (fun k => ?_) (Ev.step (f := fun k => salvorref6_Flags.l1 k a0 l1 (i : Int) s ((0 + 1 : Nat) : Int) o r) (fun k => ?_) ?_)
            · rw [salvorref6_Flags.j2, if_neg (by simp), if_pos (by omega), if_pos (by omega), hb0]
            · rw [salvorref6_Flags.j3, if_pos rfl]; rfl
            · exact short_ev a0 l1 ha hl1 i hlt s (pre1 s) (by rw [hqe, hpd]) hsz r ((i + 1) * 1001) (by omega) hK (pre1 s).size 0 o (by omega) (by omega) (by omega)
          · have hone : oneT (FF a0 a0.size) (l1.drop (i + 1)) o r s = some (l1.drop (i + 1), o, r ++ [s]) := by
              unfold oneT
              rw [if_neg hp, if_neg hq]
            rw [hone]
            have hrl : r.length < 8796093022208 := by omega
            have hrb : (r ++ [s]).length ≤ i + 1 := by rw [List.length_append, List.length_singleton]; omega
            refine Ev.step (f := fun k => salvorref6_Flags.j3 k a0 l1 (i : Int) s false o r) (fun k => ?_) (Ev.step (f := fun k => salvorref6_Flags.l0 k a0 l1 ((i + 1 : Nat) : Int) o (r ++ [s])) (fun k => ?_) (ih (i + 1) (by omega) (by omega) o (r ++ [s]) (Nat.le_trans ho (Nat.mul_le_mul_right _ (Nat.le_succ i))) hrb))
            · rw [salvorref6_Flags.j2, if_neg (by simp)]
              by_cases h2 : (s.size : Int) > 1
              · rw [if_pos h2, if_pos (by omega)]
                have hb0 : (bt s 0 == 45) = false := by
                  rw [beq_eq_false_iff_ne]
                  intro hb
                  have h0 : 0 < s.data.toList.length := by omega
                  have := bt_list s 0 h0
                  rw [show ((0 : Nat) : Int) = 0 from rfl, hb] at this
                  obtain ⟨c, q, hcq⟩ : ∃ c q, s.data.toList = c :: q := by
                    cases e : s.data.toList with
                    | nil => rw [e] at h0; simp at h0
                    | cons c q => exact ⟨c, q, rfl⟩
                  have hc : c = 45 := by
                    simp only [hcq, List.getElem_cons_zero] at this
                    apply UInt8.toNat_inj.1
                    show c.toNat = 45
                    omega
                  subst hc
                  refine hq ⟨(hp1 _).2 ⟨q, hcq⟩, ?_⟩
                  rw [tl_data, pre1_data s q hcq]
                  intro hqn
                  rw [hqn] at hcq
                  have : s.data.toList.length = 1 := by rw [hcq]; rfl
                  omega
                rw [hb0]
              · rw [if_neg h2]
            · rw [salvorref6_Flags.j3, if_neg (by simp), if_pos hrl, wn i hi64]
    · rw [List.drop_eq_nil_of_le (by omega), RR_nil]
      exact Ev.step (f := fun _ => some (o, r, true)) (fun k => by rw [salvorref6_Flags.l0, if_neg (by omega)]) (Ev.now _)
end
theorem ref_flags (a0 : ByteArray) (l1 : List ByteArray) (ha : a0.size ≤ 100) (hl : l1.length ≤ 60) (hs : ∀ s ∈ l1, s.size ≤ 100) : ∃ x, arg_Flags.f a0 l1 = some x ∧ Ev (fun k => salvorref6_Flags.f k a0 l1) x ∧ x.1.length ≤ 100000 ∧ x.2.1.length ≤ 100000 := by
  have hmu := mu_le l1 100 hs
  have hmu2 : l1.length * (100 + 1) ≤ 60 * 101 := Nat.mul_le_mul_right _ hl
  have hf : ∀ x, (match specL (bytesOf a0 0) [] with
    | none => some (([], [], false) : List S31 × List ByteArray × Bool)
    | some fl => if l1.length > 40 then some ([], [], false) else match P.runT fl (l1.length + 1) l1 [] [] with
      | none => some ([], [], false)
      | some x => some (x.1, x.2, true)) = some x → arg_Flags.f a0 l1 = some x := by
    intro x hx
    show flagsF a0 l1 = some x
    unfold flagsF
    rw [if_pos ⟨by omega, fun s h => by have := hs s h; omega, by omega⟩]
    exact hx
  obtain ⟨hm1, hm2⟩ := mayspec_ev a0 (by omega)
  by_cases h40 : l1.length > 40
  · refine ⟨([], [], false), hf _ ?_, ?_, by simp, by simp⟩
    · split
      · rfl
      · rw [if_pos h40]
    · refine Ev.congr (fun k => ?_) (Ev.step (f := fun _ => some ([], [], false)) (g := fun k => salvorref6_Flags.j0 k a0 l1 true) (fun k => by rw [salvorref6_Flags.j0, if_pos rfl]) (Ev.now _))
      unfold salvorref6_Flags.f
      rw [if_pos (by omega)]
  · cases e : specL (bytesOf a0 0) [] with
    | none =>
      rw [e] at hm1
      refine ⟨([], [], false), hf _ (by rw [e]), ?_, by simp, by simp⟩
      refine Ev.congr (fun k => ?_) (Ev.bind hm1 (f := fun k t196 => salvorref6_Flags.j0 k a0 l1 (!t196)) (Ev.step (f := fun _ => some ([], [], false)) (fun k => by rw [salvorref6_Flags.j0, if_pos (by simp)]) (Ev.now _)))
      unfold salvorref6_Flags.f
      rw [if_neg (by omega)]
    | some fl =>
      rw [e] at hm1
      obtain rfl := hm2 fl e
      have hR := runT_fuel (FF a0 a0.size) (l1.length + 1) (l1.length + 1) l1 (Nat.le_refl _) (Nat.le_succ _) [] []
      refine ⟨res (RR (FF a0 a0.size) l1 [] []), hf _ ?_, ?_, ?_⟩
      · rw [e]
        simp only [if_neg h40]
        rw [hR]
        show (match RR (FF a0 a0.size) l1 [] [] with
          | none => some (([], [], false) : List S31 × List ByteArray × Bool)
          | some x => some (x.1, x.2, true)) = _
        cases RR (FF a0 a0.size) l1 [] [] <;> rfl
      · have hmain := main_ev a0 l1 (by omega) (by omega) (fun s h => by have := hs s h; omega) l1.length 0 (by omega) (by omega) [] [] (by simp) (by simp)
        rw [List.drop_zero] at hmain
        refine Ev.congr (fun k => ?_) (Ev.bind hm1 (f := fun k t196 => salvorref6_Flags.j0 k a0 l1 (!t196)) (Ev.step (f := fun k => salvorref6_Flags.l0 k a0 l1 ((0 : Nat) : Int) [] []) (fun k => by rw [salvorref6_Flags.j0, if_neg (by simp)]; rfl) hmain))
        unfold salvorref6_Flags.f
        rw [if_neg (by omega)]
      · have hlen := RR_len (FF a0 a0.size) 60 l1 hl (fun s h => by have := hs s h; omega) [] []
        cases er : RR (FF a0 a0.size) l1 [] [] with
        | none => exact ⟨by simp [res], by simp [res]⟩
        | some x =>
          have := hlen x er
          simp only [List.length_nil] at this
          exact ⟨by show x.1.length ≤ _; omega, by show x.2.length ≤ _; omega⟩
theorem ArgFlags : ∀ (x0 : ByteArray) (x1 : List ByteArray), x0.size ≤ maxLen → (∀ x_ ∈ x1, x_.size ≤ maxLen) → ∃ k, salvorlaw9_ArgFlags.f k x0 x1 = some true := by
  intro a l _ _
  obtain ⟨b, h1, h2⟩ := few_ev l 60 (by omega) (by omega)
  have hr := Ev.bind (f := fun k t => some t) runs_ev (Ev.now true)
  refine Ev.rounds ?_
  unfold salvorlaw9_ArgFlags.f
  refine Ev.bind h1 ?_
  have hearly : Ev (fun k => salvorlaw9_ArgFlags.j0 k a l true) true := Ev.step (f := fun k => (salvorlaw9_ArgRuns.f k).bind fun t => some t) (fun k => by rw [salvorlaw9_ArgFlags.j0, if_pos rfl]) hr
  cases b with
  | false => simpa using hearly
  | true =>
    obtain ⟨h3, h4⟩ := h2 rfl
    simp only [if_true]
    by_cases ha : (a.size : Int) > 100
    · rw [decide_eq_true ha]
      exact hearly
    · rw [decide_eq_false ha]
      obtain ⟨x, h5, h6, h7, h8⟩ := ref_flags a l (by omega) (by omega) h4
      have e1 := same_ev x.1 (by omega)
      have e2 := texts_ev2 x.2.1 (by omega)
      refine Ev.step (f := fun k => (arg_Flags.f a l).bind fun bt228 => ((salvorref6_Flags.f k a l).bind fun bt236 => ((salvorref1_SameOpts.f k bt228.1 bt236.1).bind fun t244 => (if t244 = true then ((salvorref1_SameTexts.f k bt228.2.1 bt236.2.1).bind fun t245 => (if t245 = true then (if (bt228.2.2 == bt236.2.2) = true then ((salvorlaw9_ArgRuns.f k).bind fun t246 => (some t246)) else (some false)) else (some false))) else (some false))))) (fun k => by rw [salvorlaw9_ArgFlags.j0, if_neg (by simp)]) ?_
      rw [h5]
      refine Ev.bind (Ev.now x) (Ev.bind h6 (Ev.bind e1 ?_))
      simp only [if_true]
      refine Ev.bind e2 ?_
      simpa using hr
end Go.Proofs.YtlginoicaeonhaaDoor.Pure
