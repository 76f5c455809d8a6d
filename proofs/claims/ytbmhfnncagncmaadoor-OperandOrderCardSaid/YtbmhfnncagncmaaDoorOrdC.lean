/- Plain laws of dd's operands: what operands by small numbers are. No program in sight. No conditions beyond those that the lemmas name. -/
import Derived.Test.YtbmhfnncagncmaaDoorPx0
import Derived.Test.YtbmhfnncagncmaaDoorPx22
import Derived.Test.YtbmhfnncagncmaaDoorPx23
import Derived.Test.YtbmhfnncagncmaaDoorPx24
import Derived.Test.YtbmhfnncagncmaaDoorOrdD
import Derived.Test.YtbmhfnncagncmaaDoorOpzD
-- names: salvorkeep_Dd_Args.f salvorkeep_Num.f salvorkeep_Right.f salvorkeep_words.f salvorref1_Dec.f
namespace Go.Proofs.YtbmhfnncagncmaaDoor.PureO
open Go.RowKit Go.Proofs.YtbmhfnncagncmaaDoorW.PrintWords Go.Proofs.YtbmhfnncagncmaaDoorW.PrintLast Go.Proofs.YtbmhfnncagncmaaDoor.P
set_option linter.unusedVariables false
set_option linter.unusedSimpArgs false
/-- The keys, in the order in which they come. -/
def K : List ByteArray := [kOf, kIf, kIbs, kObs, kBs, kCbs, kSkip, kSeek, kCount, kFlag]
def rightW : List ByteArray := [⟨#[97]⟩, ⟨#[98]⟩, ⟨#[99]⟩, ⟨#[100, 115, 116]⟩, ⟨#[109, 97, 112]⟩, ⟨#[120, 45, 49]⟩]
/-- What values may come. -/
def V : List ByteArray := (⟨#[]⟩ :: ⟨#[102, 117, 108, 108, 98, 108, 111, 99, 107]⟩ :: (rightW ++ convW)) ++ (List.range 256).map fun v : Nat => PureN.bl (Lib.itoa (v : Int))
theorem V_conv {w : ByteArray} (h : w ∈ convW) : w ∈ V := by
  unfold V
  exact List.mem_append_left _ (List.mem_cons_of_mem _ (List.mem_cons_of_mem _ (List.mem_append_right _ h)))
theorem V_right {w : ByteArray} (h : w ∈ rightW) : w ∈ V := by
  unfold V
  exact List.mem_append_left _ (List.mem_cons_of_mem _ (List.mem_cons_of_mem _ (List.mem_append_left _ h)))
theorem V_num (v : Int) (h0 : 0 ≤ v) (h1 : v ≤ 255) : PureN.bl (Lib.itoa v) ∈ V := by
  unfold V
  refine List.mem_append_right _ (List.mem_map.2 ⟨v.toNat, List.mem_range.2 (by omega), ?_⟩)
  rw [Int.toNat_of_nonneg h0]
theorem V_flag : (⟨#[102, 117, 108, 108, 98, 108, 111, 99, 107]⟩ : ByteArray) ∈ V := by
  unfold V
  exact List.mem_append_left _ (List.mem_cons_of_mem _ (List.mem_cons_self ..))
structure Up (n : Nat) (A : List S60) : Prop where
  sub : (A.map (·.f0)).Sublist (K.take n)
  val : ∀ o ∈ A, o.f1 ∈ V
  size : ∀ o ∈ A, o.f1.size ≤ 1000
theorem Up.len {n : Nat} {A : List S60} (h : Up n A) : A.length ≤ 10 := by
  have := h.sub.length_le
  rw [List.length_map] at this
  refine Nat.le_trans this ?_
  rw [List.length_take]
  exact Nat.min_le_right _ _
theorem Up.skip {n : Nat} {A : List S60} (h : Up n A) : Up (n + 1) A :=
  ⟨h.sub.trans (List.take_sublist_take_left (by omega)), h.val, h.size⟩
theorem Up.put {n : Nat} {A : List S60} (h : Up n A) (hn : n < K.length) (v : ByteArray) (hv : v.size ≤ 1000 ∧ v ∈ V) : Up (n + 1) (A ++ [⟨K[n], v⟩]) := by
  refine ⟨?_, fun o ho => ?_, fun o ho => ?_⟩
  · rw [List.map_append, List.take_succ_eq_append_getElem hn]
    exact h.sub.append (List.Sublist.refl _)
  · rcases List.mem_append.1 ho with ho | ho
    · exact h.val o ho
    · obtain rfl := List.mem_singleton.1 ho; exact hv.2
  · rcases List.mem_append.1 ho with ho | ho
    · exact h.size o ho
    · obtain rfl := List.mem_singleton.1 ho; exact hv.1
theorem num_ev (v : Int) (h0 : 0 ≤ v) (h1 : v ≤ 255) : ∃ t, Ev (fun k => salvorkeep_Num.f k v) t ∧ t.size ≤ 1000 ∧ t ∈ V := by
  refine ⟨PureN.bl (Lib.itoa v), ?_, ?_, V_num v h0 h1⟩
  · unfold salvorkeep_Num.f
    exact Ev.bind (PureN.refdec_ev v (by omega) (by omega)) (Ev.now _)
  · rw [PureN.bl_size]
    have := PureN.itoa_len v (by omega) (by omega)
    omega
/-- Words of conv, each alone. -/
structure Cv (C : List S60) : Prop where
  key : ∀ o ∈ C, o.f0 = kConv ∧ o.f1 ∈ convW
  len : C.length ≤ 15
theorem conv_text (w : ByteArray) : (⟨#[99, 111, 110, 118, 61]⟩ : ByteArray) ++ w = textOf ⟨kConv, w⟩ := rfl
theorem count_text (w : ByteArray) : (⟨#[99, 111, 117, 110, 116, 61]⟩ : ByteArray) ++ w = textOf ⟨kCount, w⟩ := rfl
theorem flag_text : (⟨#[105, 102, 108, 97, 103, 61, 102, 117, 108, 108, 98, 108, 111, 99, 107]⟩ : ByteArray) = textOf ⟨kFlag, ⟨#[102, 117, 108, 108, 98, 108, 111, 99, 107]⟩⟩ := rfl
theorem map_snoc (A : List S60) (o : S60) : A.map textOf ++ [textOf o] = (A ++ [o]).map textOf := by rw [List.map_append]; rfl
theorem convW_size : ∀ w ∈ convW, w.size ≤ 10 := by decide
theorem convW_rd (i : Nat) (hi : i < 15) : rdOf ByteArray.empty convW (i : Int) ∈ convW := by
  have hl : i < convW.length := hi
  simp only [rdOf, Int.toNat_natCast, List.getD_eq_getElem?_getD, List.getElem?_eq_getElem hl, Option.getD_some]
  exact List.getElem_mem hl
theorem conv_loop (a0 a1 a2 a3 a4 a5 a6 a7 a8 a9 a10 : Int) (A : List S60) (hA : A.length ≤ 10) : ∀ (d i : Nat) (C : List S60), d = 15 - i → i ≤ 15 → (∀ o ∈ C, o.f0 = kConv ∧ o.f1 ∈ convW) → C.length ≤ i →
    ∃ C', Cv C' ∧ Ev (fun k => salvorkeep_Dd_Args.l1 k ((A ++ C).map textOf) convW (i : Int) a0 a1 a2 a3 a4 a5 a6 a7 a8 a9 a10) ((A ++ C').map textOf)
  | 0, i, C, hd, hi, hC, hl => by
    obtain rfl : i = 15 := by omega
    refine ⟨C, ⟨hC, hl⟩, ?_⟩
    refine Ev.step (f := fun _ => some ((A ++ C).map textOf)) (fun k => ?_) (Ev.now _)
    rw [salvorkeep_Dd_Args.l1, if_neg (by decide)]
  | d + 1, i, C, hd, hi, hC, hl => by
    have hw := convW_rd i (by omega)
    have hs := convW_size _ hw
    have hu : (0 : Int) ≤ IntKind.u64.wrap (i : Int) := by
      have : IntKind.u64.wrap (i : Int) = (i : Int) := by simp [IntKind.wrap, IntKind.signed, IntKind.bits]; omega
      omega
    have hws : wrap64 ((i : Int) + 1) = ((i + 1 : Nat) : Int) := by unfold wrap64; omega
    have hlt : (i : Int) < (convW.length : Int) := by show (i : Int) < 15; omega
    by_cases hb : (Go.bits .and .u32 (shr .u32 a10 (IntKind.u64.wrap (i : Int))) 1) = 1
    · obtain ⟨C', h1, h2⟩ := conv_loop a0 a1 a2 a3 a4 a5 a6 a7 a8 a9 a10 A hA d (i + 1) (C ++ [⟨kConv, rdOf ByteArray.empty convW (i : Int)⟩]) (by omega) (by omega) (fun o ho => by
        rcases List.mem_append.1 ho with ho | ho
        · exact hC o ho
        · obtain rfl := List.mem_singleton.1 ho; exact ⟨rfl, hw⟩) (by rw [List.length_append]; simp; omega)
      refine ⟨C', h1, Ev.step (fun k => ?_) h2⟩
      rw [salvorkeep_Dd_Args.l1, if_pos hlt, if_pos hu, if_pos hb, if_pos (by omega), if_pos (by omega), if_pos (by rw [List.length_map, List.length_append]; omega), hws, conv_text, map_snoc, List.append_assoc]
    · obtain ⟨C', h1, h2⟩ := conv_loop a0 a1 a2 a3 a4 a5 a6 a7 a8 a9 a10 A hA d (i + 1) C (by omega) (by omega) hC (by omega)
      refine ⟨C', h1, Ev.step (fun k => ?_) h2⟩
      rw [salvorkeep_Dd_Args.l1, if_pos hlt, if_pos hu, if_neg hb, hws]
theorem words_eq : salvorkeep_words.f = some convW := rfl
theorem j3_ev (a0 a1 a2 a3 a4 a5 a6 a7 a8 a9 a10 : Int) (A : List S60) (h : Up 10 A) : ∃ C, Cv C ∧ Ev (fun k => salvorkeep_Dd_Args.j3 k (A.map textOf) a0 a1 a2 a3 a4 a5 a6 a7 a8 a9 a10) ((A ++ C).map textOf) := by
  obtain ⟨C, h1, h2⟩ := conv_loop a0 a1 a2 a3 a4 a5 a6 a7 a8 a9 a10 A h.len 15 0 [] rfl (by omega) (fun o ho => by cases ho) (Nat.le_refl _)
  rw [List.append_nil] at h2
  refine ⟨C, h1, Ev.step (fun k => ?_) h2⟩
  rw [salvorkeep_Dd_Args.j3, words_eq]; rfl
theorem j2_ev (a0 a1 a2 a3 a4 a5 a6 a7 a8 a9 a10 : Int) (A : List S60) (h : Up 9 A) : ∃ A' C, Up 10 A' ∧ A.length ≤ A'.length ∧ Cv C ∧ Ev (fun k => salvorkeep_Dd_Args.j2 k (A.map textOf) a0 a1 a2 a3 a4 a5 a6 a7 a8 a9 a10) ((A' ++ C).map textOf) := by
  have hl := h.len
  by_cases hb : (Go.bits .and .u8 a9 2) = 2
  · have hp := h.put (by decide) ⟨#[102, 117, 108, 108, 98, 108, 111, 99, 107]⟩ ⟨by decide, V_flag⟩
    obtain ⟨C, h1, h2⟩ := j3_ev a0 a1 a2 a3 a4 a5 a6 a7 a8 a9 a10 _ hp
    refine ⟨_, C, hp, by rw [List.length_append]; omega, h1, Ev.step (fun k => ?_) h2⟩
    rw [salvorkeep_Dd_Args.j2, if_pos hb, if_pos (by rw [List.length_map]; omega), flag_text, map_snoc]; rfl
  · obtain ⟨C, h1, h2⟩ := j3_ev a0 a1 a2 a3 a4 a5 a6 a7 a8 a9 a10 _ h.skip
    refine ⟨_, C, h.skip, Nat.le_refl _, h1, Ev.step (fun k => ?_) h2⟩
    rw [salvorkeep_Dd_Args.j2, if_neg hb]
def keys6 : List ByteArray := [kIbs, kObs, kBs, kCbs, kSkip, kSeek]
theorem keys6_at (i : Nat) (hi : i < 6) : ∃ h : 2 + i < K.length, rdOf ByteArray.empty keys6 (i : Int) = K[2 + i] ∧ (rdOf ByteArray.empty keys6 (i : Int)).size ≤ 5 := by
  rcases (show i = 0 ∨ i = 1 ∨ i = 2 ∨ i = 3 ∨ i = 4 ∨ i = 5 by omega) with rfl | rfl | rfl | rfl | rfl | rfl <;> exact ⟨by decide, rfl, by decide⟩
theorem nums_loop (a0 a1 a2 a3 a4 a5 a6 a7 a8 a9 a10 : Int) (ha8 : 0 ≤ a8 ∧ a8 ≤ 255) (vals : List Int) (hv : vals.length = 6) (hvs : ∀ x ∈ vals, x ≤ 255) : ∀ (d i : Nat) (A : List S60), d = 6 - i → i ≤ 6 → Up (2 + i) A →
    ∃ A' C, Up 10 A' ∧ A.length ≤ A'.length ∧ Cv C ∧ Ev (fun k => salvorkeep_Dd_Args.l0 k (A.map textOf) keys6 vals (i : Int) a0 a1 a2 a3 a4 a5 a6 a7 a8 a9 a10) ((A' ++ C).map textOf)
  | 0, i, A, hd, hi, h => by
    obtain rfl : i = 6 := by omega
    have hl := h.len
    have hst : ∀ k, salvorkeep_Dd_Args.l0 (k + 1) (A.map textOf) keys6 vals ((6 : Nat) : Int) a0 a1 a2 a3 a4 a5 a6 a7 a8 a9 a10 = if (Go.bits .and .u8 a9 1) = 1 then ((salvorkeep_Num.f k (wrap64 (Int.tmod a8 20))).bind fun t286 => (if 6 + t286.size ≤ 9223372036854775807 then (if (A.map textOf).length < 8796093022208 then (salvorkeep_Dd_Args.j2 k (A.map textOf ++ [(⟨#[99, 111, 117, 110, 116, 61]⟩ : ByteArray) ++ t286]) a0 a1 a2 a3 a4 a5 a6 a7 a8 a9 a10) else (none)) else (none))) else (salvorkeep_Dd_Args.j2 k (A.map textOf) a0 a1 a2 a3 a4 a5 a6 a7 a8 a9 a10) := fun k => by
      rw [salvorkeep_Dd_Args.l0, if_neg (by decide)]
    by_cases hb : (Go.bits .and .u8 a9 1) = 1
    · have hm : Int.tmod a8 20 = a8 % 20 := Int.tmod_eq_emod_of_nonneg ha8.1
      have hw : wrap64 (Int.tmod a8 20) = a8 % 20 := by rw [hm]; unfold wrap64; omega
      obtain ⟨t, ht, hts⟩ := num_ev (a8 % 20) (by omega) (by omega)
      have hp := Up.put (n := 8) h (by decide) t hts
      obtain ⟨A', C, h1, h2, h3, h4⟩ := j2_ev a0 a1 a2 a3 a4 a5 a6 a7 a8 a9 a10 _ hp
      refine ⟨A', C, h1, by rw [List.length_append] at h2; omega, h3, Ev.step hst ?_⟩
      simp only [if_pos hb, hw]
      refine Ev.bind ht ?_
      simp only [if_pos (show 6 + t.size ≤ 9223372036854775807 by have := hts.1; omega), if_pos (show (A.map textOf).length < 8796093022208 by rw [List.length_map]; omega), count_text, map_snoc]
      exact h4
    · obtain ⟨A', C, h1, h2, h3, h4⟩ := j2_ev a0 a1 a2 a3 a4 a5 a6 a7 a8 a9 a10 A (Up.skip (n := 8) h)
      refine ⟨A', C, h1, h2, h3, Ev.step hst ?_⟩
      simp only [if_neg hb]
      exact h4
  | d + 1, i, A, hd, hi, h => by
    have hl := h.len
    obtain ⟨hK, e1, e2⟩ := keys6_at i (by omega)
    have hws : wrap64 ((i : Int) + 1) = ((i + 1 : Nat) : Int) := by unfold wrap64; omega
    have c1 : (i : Int) < (keys6.length : Int) := by show (i : Int) < 6; omega
    have c2 : (i : Int) < (vals.length : Int) := by rw [hv]; omega
    by_cases hp : rd vals (i : Int) > 0
    · have hm : rd vals (i : Int) ≤ 255 := by
        have hil : i < vals.length := by omega
        have : rd vals (i : Int) = vals[i] := by simp [rd, hil]
        rw [this]; exact hvs _ (List.getElem_mem hil)
      have hw : wrap64 (rd vals (i : Int)) = rd vals (i : Int) := by unfold wrap64; omega
      obtain ⟨t, ht, hts⟩ := num_ev (rd vals (i : Int)) (by omega) (by omega)
      obtain ⟨A', C, h1, h2, h3, h4⟩ := nums_loop a0 a1 a2 a3 a4 a5 a6 a7 a8 a9 a10 ha8 vals hv hvs d (i + 1) (A ++ [⟨K[2 + i], t⟩]) (by omega) (by omega) (h.put hK t hts)
      have hst : ∀ k, salvorkeep_Dd_Args.l0 (k + 1) (A.map textOf) keys6 vals (i : Int) a0 a1 a2 a3 a4 a5 a6 a7 a8 a9 a10 = (salvorkeep_Num.f k (rd vals (i : Int))).bind fun t282 => (if ((rdOf ByteArray.empty keys6 (i : Int)) ++ (⟨#[61]⟩ : ByteArray)).size + t282.size ≤ 9223372036854775807 then (if (A.map textOf).length < 8796093022208 then (salvorkeep_Dd_Args.l0 k (A.map textOf ++ [((rdOf ByteArray.empty keys6 (i : Int)) ++ (⟨#[61]⟩ : ByteArray)) ++ t282]) keys6 vals ((i + 1 : Nat) : Int) a0 a1 a2 a3 a4 a5 a6 a7 a8 a9 a10) else (none)) else (none)) := fun k => by
        rw [salvorkeep_Dd_Args.l0, if_pos c1, if_pos (by omega), if_pos c2, if_pos hp, if_pos (by omega), hw, hws]
      refine ⟨A', C, h1, by rw [List.length_append] at h2; omega, h3, Ev.step hst (Ev.bind ht ?_)⟩
      have hs6 : ((rdOf ByteArray.empty keys6 (i : Int)) ++ (⟨#[61]⟩ : ByteArray)).size ≤ 6 := by rw [ByteArray.size_append, show (⟨#[61]⟩ : ByteArray).size = 1 from rfl]; omega
      simp only [if_pos (show ((rdOf ByteArray.empty keys6 (i : Int)) ++ (⟨#[61]⟩ : ByteArray)).size + t.size ≤ 9223372036854775807 by have := hts.1; omega), if_pos (show (A.map textOf).length < 8796093022208 by rw [List.length_map]; omega)]
      rw [e1, show (K[2 + i] ++ (⟨#[61]⟩ : ByteArray)) ++ t = textOf ⟨K[2 + i], t⟩ from rfl, map_snoc]
      exact h4
    · obtain ⟨A', C, h1, h2, h3, h4⟩ := nums_loop a0 a1 a2 a3 a4 a5 a6 a7 a8 a9 a10 ha8 vals hv hvs d (i + 1) A (by omega) (by omega) h.skip
      refine ⟨A', C, h1, h2, h3, Ev.step (fun k => ?_) h4⟩
      rw [salvorkeep_Dd_Args.l0, if_pos c1, if_pos (by omega), if_pos c2, if_neg hp, hws]
theorem right_f (a : Int) (h : 0 ≤ a) : ∃ t, salvorkeep_Right.f a = some t ∧ t.size ≤ 5 ∧ t ∈ V := by
  unfold salvorkeep_Right.f
  rw [Int.tmod_eq_emod_of_nonneg h]
  simp only [Option.bind_some]
  rw [if_pos (by omega), if_pos (by show a % 6 < 6; omega)]
  rcases (show a % 6 = 0 ∨ a % 6 = 1 ∨ a % 6 = 2 ∨ a % 6 = 3 ∨ a % 6 = 4 ∨ a % 6 = 5 by omega) with e | e | e | e | e | e <;> rw [e] <;> exact ⟨_, rfl, by decide, V_right (by simp [rightW, rdOf])⟩
theorem of_text (w : ByteArray) : (⟨#[111, 102, 61]⟩ : ByteArray) ++ w = textOf ⟨kOf, w⟩ := rfl
theorem if_text (w : ByteArray) : (⟨#[105, 102, 61]⟩ : ByteArray) ++ w = textOf ⟨kIf, w⟩ := rfl
/-- What operands by small numbers are. -/
theorem args_ev (a0 a1 a2 a3 a4 a5 a6 a7 a8 a9 a10 : Int) (h : ∀ x ∈ [a0, a1, a2, a3, a4, a5, a6, a7, a8], 0 ≤ x ∧ x ≤ 255) : ∃ A C, Up 10 A ∧ 2 ≤ A.length ∧ Cv C ∧ Ev (fun k => salvorkeep_Dd_Args.f k a0 a1 a2 a3 a4 a5 a6 a7 a8 a9 a10 false) ((A ++ C).map textOf) := by
  have g0 := h a0 (by simp)
  have g1 := h a1 (by simp)
  have g2 := h a2 (by simp)
  have g3 := h a3 (by simp)
  have g4 := h a4 (by simp)
  have g5 := h a5 (by simp)
  have g6 := h a6 (by simp)
  have g7 := h a7 (by simp)
  have g8 := h a8 (by simp)
  obtain ⟨t1, e1, s1, v1⟩ := right_f a1 g1.1
  obtain ⟨t0, e0, s0, v0⟩ := right_f a0 g0.1
  have hu : Up 2 [⟨kOf, t1⟩, ⟨kIf, t0⟩] := by
    refine ⟨List.Sublist.refl _, fun o ho => ?_, fun o ho => ?_⟩
    · simp only [List.mem_cons, List.mem_nil_iff, or_false] at ho
      rcases ho with rfl | rfl
      · exact v1
      · exact v0
    · simp only [List.mem_cons, List.mem_nil_iff, or_false] at ho
      rcases ho with rfl | rfl
      · show t1.size ≤ 1000; omega
      · show t0.size ≤ 1000; omega
  have hvs : ∀ x ∈ [Int.tmod a2 40, Int.tmod a3 40, Int.tmod a4 40, Int.tmod a5 20, Int.tmod a6 12, Int.tmod a7 12], x ≤ 255 := by
    intro x hx
    simp only [List.mem_cons, List.mem_nil_iff, or_false] at hx
    rcases hx with rfl | rfl | rfl | rfl | rfl | rfl
    · rw [Int.tmod_eq_emod_of_nonneg g2.1]; omega
    · rw [Int.tmod_eq_emod_of_nonneg g3.1]; omega
    · rw [Int.tmod_eq_emod_of_nonneg g4.1]; omega
    · rw [Int.tmod_eq_emod_of_nonneg g5.1]; omega
    · rw [Int.tmod_eq_emod_of_nonneg g6.1]; omega
    · rw [Int.tmod_eq_emod_of_nonneg g7.1]; omega
  obtain ⟨A, C, h1, h2, h3, h4⟩ := nums_loop a0 a1 a2 a3 a4 a5 a6 a7 a8 a9 a10 g8 _ rfl hvs 6 0 [⟨kOf, t1⟩, ⟨kIf, t0⟩] rfl (by omega) hu
  refine ⟨A, C, h1, h2, h3, ?_⟩
  have hj : Ev (fun k => salvorkeep_Dd_Args.j0 k ([⟨kOf, t1⟩, ⟨kIf, t0⟩].map textOf) a0 a1 a2 a3 a4 a5 a6 a7 a8 a9 a10) ((A ++ C).map textOf) := Ev.step (fun k => by rw [salvorkeep_Dd_Args.j0]; rfl) h4
  refine Ev.congr (fun k => ?_) hj
  unfold salvorkeep_Dd_Args.f
  rw [e1, e0]
  simp only [Option.bind_some]
  rw [if_pos (by omega), if_neg (by simp), if_pos (by omega), if_pos (by simp)]
  rfl
end Go.Proofs.YtbmhfnncagncmaaDoor.PureO
