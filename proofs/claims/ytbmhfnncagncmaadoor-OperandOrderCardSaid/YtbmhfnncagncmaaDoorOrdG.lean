/- Plain laws of dd's operands by small numbers: as they come, turned about, or with the words of conv joined, Parse answers the same. No program in sight. No conditions beyond those that the lemmas name. -/
import Derived.Test.YtbmhfnncagncmaaDoorPx0
import Derived.Test.YtbmhfnncagncmaaDoorOrdE
import Derived.Test.YtbmhfnncagncmaaDoorOrdF
namespace Go.Proofs.YtbmhfnncagncmaaDoor.PureO
open Go.RowKit Go.Proofs.YtbmhfnncagncmaaDoorW.PrintWords Go.Proofs.YtbmhfnncagncmaaDoorW.PrintLast Go.Proofs.YtbmhfnncagncmaaDoor.P
set_option linter.unusedVariables false
set_option linter.unusedSimpArgs false
theorem Up.mem {A : List S60} (h : Up 10 A) {o : S60} (ho : o ∈ A) : o.f0 ∈ K :=
  List.mem_of_mem_take (h.sub.subset (List.mem_map_of_mem ho))
theorem K_keys : ∀ k ∈ K, k ∈ keysW ∧ k.toList ≠ kConv.toList := by
  intro k h
  simp only [K, List.mem_cons, List.mem_nil_iff, or_false] at h
  rcases h with rfl | rfl | rfl | rfl | rfl | rfl | rfl | rfl | rfl | rfl <;> exact ⟨by simp [keysW, kOf, kIf, kIbs, kObs, kBs, kCbs, kSkip, kSeek, kCount, kFlag, kConv], by decide +kernel⟩
theorem sel_map (key : ByteArray) (l : List S60) : (sel key l).length = ((l.map (·.f0)).filter fun k => k.toList == key.toList).length := by
  unfold sel
  rw [List.filter_map, List.length_map]
  rfl
theorem K_once : ∀ key ∈ kFlag :: nine, (K.filter fun k => k.toList == key.toList).length ≤ 1 := by decide +kernel
theorem Up.once {A : List S60} (h : Up 10 A) {key : ByteArray} (hk : key ∈ kFlag :: nine) : (sel key A).length ≤ 1 := by
  rw [sel_map]
  exact Nat.le_trans ((h.sub.trans (List.take_sublist 10 K)).filter _).length_le (K_once key hk)
theorem nine_conv : ∀ key ∈ kFlag :: nine, kConv.toList ≠ key.toList := by decide +kernel
theorem Cv.none {C : List S60} (h : Cv C) {key : ByteArray} (hk : key ∈ kFlag :: nine) : sel key C = [] := by
  unfold sel
  refine List.filter_eq_nil_iff.2 fun o ho => ?_
  rw [(h.key o ho).1]
  simpa using nine_conv key hk
theorem kv_once {A C : List S60} (hA : Up 10 A) (hC : Cv C) {key : ByteArray} (hk : key ∈ kFlag :: nine) : (sel key (A ++ C)).length ≤ 1 := by
  rw [sel_app, hC.none hk, List.append_nil]
  exact hA.once hk
theorem kConv_key : kConv ∈ keysW := by simp [keysW, kOf, kIf, kIbs, kObs, kBs, kCbs, kSkip, kSeek, kCount, kFlag, kConv]
theorem kv_good {A C : List S60} (hA : Up 10 A) (hC : Cv C) : Good (A ++ C) where
  len := by
    rw [List.length_append]
    have := hA.len
    have := hC.len
    omega
  key := fun o ho => by
    rcases List.mem_append.1 ho with h | h
    · exact ⟨(K_keys _ (hA.mem h)).1, hA.size o h⟩
    · have := hC.key o h
      rw [this.1]
      exact ⟨kConv_key, by have := convW_size _ this.2; omega⟩
  one := fun key hk => kv_once hA hC (List.mem_cons_of_mem _ hk)
theorem kv_V {A C : List S60} (hA : Up 10 A) (hC : Cv C) : ∀ o ∈ A ++ C, o.f1 ∈ V := fun o ho => by
  rcases List.mem_append.1 ho with h | h
  · exact hA.val o h
  · exact V_conv (hC.key o h).2
theorem Good.perm {a b : List S60} (h : Good a) (p : a.Perm b) : Good b where
  len := by rw [← p.length_eq]; exact h.len
  key := fun o ho => h.key o (p.mem_iff.2 ho)
  one := fun key hk => by
    have := (p.filter fun o : S60 => o.f0.toList == key.toList).length_eq
    show (b.filter _).length ≤ 1
    rw [← this]; exact h.one key hk
/-- Turned about. -/
theorem turn_ev {A C : List S60} (hA : Up 10 A) (hC : Cv C) (n : Nat) {r : PL × Int} (h : Ev (fun k => knownF k (A ++ C)) r) : Ev (fun k => parseF k (((A ++ C).map textOf).drop n ++ ((A ++ C).map textOf).take n)) r := by
  have hg := kv_good hA hC
  have hp : (A ++ C).Perm ((A ++ C).drop n ++ (A ++ C).take n) := by
    have := List.perm_append_comm (l₁ := (A ++ C).take n) (l₂ := (A ++ C).drop n)
    rwa [List.take_append_drop] at this
  have hg2 := hg.perm hp
  have hs : Same (A ++ C) ((A ++ C).drop n ++ (A ++ C).take n) := by
    have := turn_same ((A ++ C).take n) ((A ++ C).drop n) (by rw [List.take_append_drop]; exact fun key hk => kv_once hA hC (List.mem_cons_of_mem _ hk)) (by rw [List.take_append_drop]; exact kv_once hA hC (List.mem_cons_self ..))
    rwa [List.take_append_drop] at this
  rw [← List.map_drop, ← List.map_take, ← List.map_append]
  refine parse_kv _ hg2 (Ev.congr (fun k => ?_) h)
  exact (known_same k hs (guard_kv _ hg) (guard_kv _ hg2)).symm
theorem conv_sel {A C : List S60} (hA : Up 10 A) (hC : Cv C) : sel kConv (A ++ C) = C := by
  have h1 : sel kConv A = [] := by
    unfold sel
    exact List.filter_eq_nil_iff.2 fun o ho => by simpa using (K_keys _ (hA.mem ho)).2
  have h2 : sel kConv C = C := by
    unfold sel
    exact List.filter_eq_self.2 fun o ho => by rw [(hC.key o ho).1]; simp
  rw [sel_app, h1, h2, List.nil_append]
theorem conv_rest {A C : List S60} (hA : Up 10 A) (hC : Cv C) : (A ++ C).filter (fun o => !isConv o) = A := by
  have h1 : A.filter (fun o => !isConv o) = A := List.filter_eq_self.2 fun o ho => by
    have := (K_keys _ (hA.mem ho)).2
    unfold isConv
    rw [Bool.not_eq_true', beq_eq_false_iff_ne]; exact this
  have h2 : C.filter (fun o => !isConv o) = [] := List.filter_eq_nil_iff.2 fun o ho => by
    unfold isConv
    rw [(hC.key o ho).1]; simp
  rw [List.filter_append, h1, h2, List.append_nil]
theorem wds_conv : ∀ {C : List S60}, (∀ o ∈ C, o.f0 = kConv ∧ o.f1 ∈ convW) → wds C = C.map (·.f1)
  | [], _ => rfl
  | o :: C, h => by
    show wordsOf o.f1 ++ wds C = o.f1 :: C.map (·.f1)
    rw [words_one (conv_words _ (h o (by simp)).2).1, wds_conv fun x hx => h x (List.mem_cons_of_mem _ hx)]
    rfl
/-- Words of conv together, and that twice. -/
theorem join_ev {A C : List S60} (hA : Up 10 A) (hC : Cv C) (hne : C ≠ []) {r : PL × Int} (h : Ev (fun k => knownF k (A ++ C)) r) : Ev (fun k => parseF k (A.map textOf ++ [(⟨#[99, 111, 110, 118, 61]⟩ : ByteArray) ++ jn (C.map (·.f1)), (⟨#[99, 111, 110, 118, 61]⟩ : ByteArray) ++ jn (C.map (·.f1))])) r := by
  have hg := kv_good hA hC
  have hw : ∀ w ∈ C.map (·.f1), (44 : UInt8) ∉ w.data.toList ∧ 0 < w.size ∧ w.size ≤ 10 := fun w h => by
    obtain ⟨o, ho, rfl⟩ := List.mem_map.1 h
    exact conv_words _ (hC.key o ho).2
  have hJ : wordsOf (jn (C.map (·.f1))) = wds (sel kConv (A ++ C)) := by
    rw [conv_sel hA hC, wds_conv hC.key, words_jn _ (by simpa using hne) fun w h => (hw w h).1]
  have hs := join_same (A ++ C) (jn (C.map (·.f1))) hJ
  rw [conv_rest hA hC] at hs
  have hz : (jn (C.map (·.f1))).size ≤ 1000 := by
    have h1 := jn_size fun w h => (hw w h).2.2
    have h2 := hC.len
    rw [List.length_map] at h1
    omega
  have hg2 : Good (A ++ [⟨kConv, jn (C.map (·.f1))⟩, ⟨kConv, jn (C.map (·.f1))⟩]) := by
    refine ⟨?_, fun o ho => ?_, fun key hk => ?_⟩
    · have := hA.len
      rw [List.length_append]
      show A.length + 2 ≤ 40
      omega
    · rcases List.mem_append.1 ho with h | h
      · exact ⟨(K_keys _ (hA.mem h)).1, hA.size o h⟩
      · have : o = ⟨kConv, jn (C.map (·.f1))⟩ := by simpa using h
        rw [this]
        exact ⟨kConv_key, hz⟩
    · rw [sel_app, sel_two (fun e => nine_conv key (List.mem_cons_of_mem _ hk) e.symm), List.append_nil]
      exact hA.once (List.mem_cons_of_mem _ hk)
  have := parse_kv _ hg2 (r := r) (Ev.congr (fun k => (known_same k hs (guard_kv _ hg) (guard_kv _ hg2)).symm) h)
  rwa [List.map_append] at this
end Go.Proofs.YtbmhfnncagncmaaDoor.PureO
