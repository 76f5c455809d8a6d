/- The walk of OperandWrong . No conditions. -/
import Derived.Test.YtbmhfnncagncmaaDoorPx0
import Derived.Test.YtbmhfnncagncmaaDoorPx2
import Derived.Test.YtbmhfnncagncmaaDoorPx12
import Derived.Test.YtbmhfnncagncmaaDoorOprV
namespace Go.Proofs.YtbmhfnncagncmaaDoor.P
open Go.RowKit Go.Proofs.YtbmhfnncagncmaaDoorW.PrintWords Go.Proofs.YtbmhfnncagncmaaDoorW.PrintLast
set_option linter.unusedVariables false
set_option linter.unusedSimpArgs false
/-- Region 5's table (rtab .any (opsOf Tryd.f5 5), by reduction): what each operation waits for. -/
def wrong_T5 : Bool × List (List Nat × List Nat) := (true, [([], []), ([], []), ([0, 1], [0, 1]), ([2], [2]), ([], []), ([], []), ([5], [5]), ([], []), ([7], [7]), ([6, 8], [6, 8]), ([4, 9], [4, 9]), ([10], [10]), ([11], [11]), ([3, 12, 3], [3, 12]), ([], []), ([], []), ([14, 15], [14, 15]), ([13, 16, 13], [13, 16]), ([17, 17, 0, 1, 2, 3, 4, 5, 6, 7, 8, 9, 10, 11, 12, 13, 14, 15, 16, 17], [17])])
def wrong_B5 : List Nat := [0, 0, 3, 7, 0, 0, 32, 0, 128, 480, 1008, 2032, 4080, 8191, 0, 0, 49152, 131071, 262143]
theorem wrong_tab5 : rtab .any (opsOf Tryd.f5 5) = wrong_T5 := by kernel_rfl
theorem wrong_bits5 : waitsOk wrong_T5.2 wrong_B5 = true := by kernel_rfl
theorem C_drew2 {w : World} {A : Option Addr} {n : Nat} {l : List ByteArray} (h : Kd.C Kd.string w A n l) {w1 : World} (hb : Below w.heap.size w w1) : Kd.C Kd.string w1 A n l := Kd.C_below h hb
attribute [local go_sem high] eqA25
theorem rdOf_bad (i : Nat) (h : i < 21) : rdOf ByteArray.empty badL (i : Int) = badL.getD i ⟨#[]⟩ := by
  have h2 : ∀ i : Fin 21, rdOf ByteArray.empty badL (i.val : Int) = badL.getD i.val ⟨#[]⟩ := by decide +kernel
  exact h2 ⟨i, h⟩
set_option maxHeartbeats 8000000 in
set_option maxRecDepth 100000 in
theorem wrong_walk (x0 x1 : Int) (h0 : 0 ≤ x0) (h0' : x0 ≤ 255) (h1 : 0 ≤ x1) (h1' : x1 ≤ 255) (w : World) (htab : TabAt w) : Calls Tryd.prog 5 #[.int .u8 x0, .int .u8 x1] w fun e w' => e = .returned (.bool true) ∧ Below w.heap.size w w' := by
  have HT := Aside0.mk htab
  clear htab
  go_enter Tryd.func5, Tryd.ntmps5
  go_upto_region 3 with (fail)
  obtain ⟨wg, hwg⟩ : ∃ wg, wg = w.alloc (.cells (goodL.map Value.string).toArray 9) := ⟨_, rfl⟩
  generalize hW : World.alloc (World.alloc w _) _ = w1
  obtain ⟨ga, hga⟩ : ∃ g, g = w.heap.size := ⟨_, rfl⟩
  have hsz : wg.heap.size = ga + 1 := by rw [hwg, hga]; show (Array.push w.heap _).size = _; exact Array.size_push ..
  have hB1 : Below wg.heap.size wg w1 := by rw [← hW, hwg]; exact below_alloc (Below.refl _ _) _
  have hBg : Below w.heap.size w wg := by rw [hwg]; exact below_alloc (Below.refl _ _) _
  have KG := Aside0.mk (show Kd.C Kd.string w1 (some ⟨ga, 0, none⟩) goodL.length goodL from Kd.C_below (show Kd.C Kd.string wg (some ⟨ga, 0, none⟩) goodL.length goodL by {rw [hwg, hga]; exact (Kd.R_reads' (split_owns w goodL 8 rfl (by unfold maxLen; omega))).2.2}) hB1)
  have KB := Aside0.mk (show Kd.C Kd.string w1 (some ⟨ga + 1, 0, none⟩) badL.length badL by {rw [← hW, ← hsz, hwg]; exact (Kd.R_reads' (split_owns _ badL 21 rfl (by unfold maxLen; omega))).2.2})
  have HB := Aside0.mk (below_step hBg hB1)
  rw [← hga]
  clear hW hB1 hBg hsz hwg hga
  go_upto_region 4 with (first
    | (go_at_call 6; have hq := parse_walk 40 (some ⟨ga, 0, none⟩) 8 goodL goodP 0 w1 KG.out (by decide) (HT.out.below HB.out) good_eval; refine hq.mono ?_; clear hq; rintro e w2 ⟨rfl, hb⟩; replace HB := Aside0.mk (below_step HB.out hb); replace KG := Aside0.mk (Kd.C_below KG.out hb); replace KB := Aside0.mk (Kd.C_below KB.out hb); clear hb)
    | ((with_reducible refine gate_dst (N := 7) rfl ?_); refine box_e 7 zeroPL.c 25 ?_; intro g7 hg w3 hbox hb; have H7 := Aside0.mk hbox; have G7 := Aside0.mk (show w.heap.size ≤ g7 by {rw [hg]; exact below_size HB.out}); replace HB := Aside0.mk (below_step HB.out hb); have HB2 := Aside0.mk hb; have G72 := Aside0.mk (Nat.le_of_eq hg.symm); clear hg hbox hb)
    | ((with_reducible refine gate_store (t := 25) (p := 7) rfl ?_); refine store_event (t := 25) (p := 7) (v := .tmp 28) (w1 := (World.setRow w3 g7 goodP.c)) ?hg1 ?ho1 ?hn1 ?hr1 ?_; (case ho1 => rfl); (case hg1 => rfl); (case hn1 => rfl); (case hr1 => exact store_ev (tp := 7) (tv := 28) (p := zeroPL) (q := goodP) rfl rfl rfl H7.out); intro w4 hw; replace HB := Aside0.mk (show Below w.heap.size w w4 by {rw [hw]; exact below_setRow HB.out G7.out _}); replace HB2 := Aside0.mk (show Below w2.heap.size w2 w4 by {rw [hw]; exact below_setRow HB2.out G72.out _}); clear hw))
  go_upto_region 5 with (fail)
  obtain ⟨j, hj, hj9⟩ : ∃ j : Nat, x1 % 9 = (j : Int) ∧ j < 9 := ⟨(x1 % 9).toNat, by omega, by omega⟩
  obtain ⟨i, hi, hi21⟩ : ∃ i : Nat, x0 % 21 = (i : Int) ∧ i < 21 := ⟨(x0 % 21).toNat, by omega, by omega⟩
  rw [hj]
  replace KG := Aside0.mk (Kd.C_drew (Kd.C_below KG.out HB2.out))
  replace KB := Aside0.mk (Kd.C_drew (Kd.C_below KB.out HB2.out))
  replace HB := Aside0.mk (below_drew1 HB.out)
  obtain ⟨in9, hin9, _, hsz9, _⟩ := info_parts info9
  have hcutT := cut_to (P := Tryd.prog) 33 9 .i64 Tryd.underlying33 hin9 (some ⟨ga, 0, none⟩) 8 8 (j : Int) (by omega) (by omega) (Nat.le_refl _)
  have hcutD := cut_from (P := Tryd.prog) 33 9 .i64 Tryd.underlying33 hin9 1 hsz9 (some ⟨ga, 0, none⟩) 8 8 (j : Int) (by omega) (by omega)
  have hKT := Kd.C_take (m := j) KG.out (by show j ≤ 8; omega)
  have hKD := Kd.C_drop (m := j) (c := 8) KG.out (by show j ≤ 8; omega) (by decide)
  rw [Int.toNat_natCast] at hcutT hcutD
  obtain ⟨A2, hA2⟩ : ∃ A2, A2 = (if 8 = j then (some ⟨ga, 0, none⟩ : Option Addr) else (some ⟨ga, 0, none⟩ : Option Addr).map (·.add (j * 1))) := ⟨_, rfl⟩
  rw [← hA2] at hcutD
  replace hKD : Kd.C Kd.string (World.drew w4) A2 (goodL.drop j).length (goodL.drop j) := by rw [hA2]; exact hKD
  have hlt : (goodL.take j).length = j := by rw [List.length_take]; show min j 8 = j; omega
  have hld : (goodL.drop j).length = 8 - j := by rw [List.length_drop]; rfl
  have KT := Aside0.mk hKT
  have KD := Aside0.mk hKD
  have HLT := Aside0.mk hlt
  have HLD := Aside0.mk hld
  rw [← hld] at hcutD
  obtain ⟨tl, htl⟩ : ∃ t, t = goodL.take j := ⟨_, rfl⟩
  obtain ⟨dl, hdl⟩ : ∃ t, t = goodL.drop j := ⟨_, rfl⟩
  rw [← htl] at KT HLT
  rw [← hdl] at KD HLD hcutD
  replace hcutT : ∀ W : World, (Instr.slice 33 (.slice (some ⟨ga, 0, none⟩) 8 8) none (some (.int .i64 (j : Int))) none).run Tryd.prog W = .ok (.slice (some ⟨ga, 0, none⟩) tl.length 8) W := by rw [HLT.out]; exact hcutT
  obtain ⟨bi, hbi⟩ : ∃ b, b = rdOf ByteArray.empty badL (i : Int) := ⟨_, rfl⟩
  have gi0 := eq_true (show (0 : Int) ≤ (i : Int) from by omega)
  have gi1 := eq_true (show (i : Int) < 21 from by omega)
  have HBI := Aside0.mk hbi
  have HDT := Aside0.mk (show tl ++ [bi] ++ dl = wrongL i j from by rw [htl, hdl, hbi, rdOf_bad i hi21]; rfl)
  clear hKT hKD hlt hld hsz9 hA2 htl hdl hbi
  have HS := Aside0.mk (show ∀ w', Below (World.drew w4).heap.size (World.drew w4) w' → w'.cell? ⟨ga + 1, i, none⟩ = some (.string bi) from by {intro w' hb; obtain ⟨ad, e1, e2⟩ := Kd.at_string (Kd.C_below KB.out hb) (i : Int) (by omega) (by show (i : Int) < 21; omega); obtain rfl := Option.some.inj e1; rw [Int.toNat_natCast, show (⟨ga + 1, 0, none⟩ : Addr).add i = ⟨ga + 1, i, none⟩ from by unfold Addr.add; split <;> simp_all] at e2; rw [HBI.out]; exact e2})
  refine start_ (n := 19) (S := fun w' => w'.cell? ⟨ga + 1, i, none⟩ = some (.string bi)) (ds := []) #[false, false, false, false, false, false, false, false, false, false, false, false, false, false, false, false, false, false, false] (by kernel_rfl) rfl rfl (HS.out _ (Below.refl _ _)) (fun hHeld => ?_); refine with_tabW wrong_tab5 wrong_bits5 (fun HT_ HW_ => ?_)
  generalize World.drew w4 = w5 at KG KB KT KD HB HS hHeld ⊢
  refine pu_ 0 36 (lb_ 19 1) rfl rfl (ao_ HT_) ?_
  refine pu_ 1 37 (lb_ 19 3) rfl rfl (ao_ HT_) ?_
  refine pu_ 2 38 (lb_ 19 7) rfl rfl (ao_ HT_) ?_
  refine pu_ 4 40 (lb_ 19 23) rfl rfl (ao_ HT_) ?_
  refine pu_ 5 41 (lb_ 19 55) rfl rfl (ao_ HT_) ?_
  refine pu_ 6 42 (lb_ 19 119) rfl rfl (ao_ HT_) ?_
  refine pu_ 7 43 (lb_ 19 247) rfl rfl (ao_ HT_) ?_
  refine pu_ 8 44 (lb_ 19 503) rfl rfl (ao_ HT_) ?_
  refine pu_ 9 45 (lb_ 19 1015) rfl rfl (ao_ HT_) ?_
  rw [show (wrap64 x0).tmod 21 = (i : Int) from by rw [show wrap64 x0 = x0 from by unfold wrap64; omega, Int.tmod_eq_emod_of_nonneg h0]; exact hi]
  refine pu_ 10 46 (lb_ 19 2039) rfl rfl (ao_ HT_) ?_
  refine tk_ 11 47 (lb_ 19 4087) rfl rfl (take_ofW HT_.out HW_.out (by kernel_rfl)) hHeld ?_
  refine pu_ 14 50 (lb_ 19 20471) rfl rfl (ao_ HT_) ?_
  refine pu_ 15 51 (lb_ 19 53239) rfl rfl (ao_ HT_) ?_
  refine pu_ 16 52 (lb_ 19 118775) rfl rfl (ao_ HT_) ?_
  refine join_ (σ := Value × Value) 3 #[true, true, true, true, true, true, true, true, true, true, true, true, true, false, true, true, true, false, false] (fun s_ => [(39, s_.1), (48, s_.2)]) (fun s_ w' => Kd.R Kd.string 9 w' w5.heap.size (fun _ => True) s_.1 tl ∧ Kd.R Kd.string 9 w' w5.heap.size (fun _ => True) s_.2 [bi] ∧ Below w5.heap.size w5 w') ?_ ?_
  rotate_left
  · intro hCont
    refine two_ (i := 3) (j := 12) (Ni := some 39) (Nj := some 48) #[true, true, true, true, true, true, true, true, true, true, true, true, false, false, true, true, true, false, false] #[true, true, true, false, true, true, true, true, true, true, true, true, true, false, true, true, true, false, false] rfl rfl rfl rfl (two_of HT_.out (by kernel_rfl)) (by decide) (by decide) (fun K hK => ?_) (fun K hK => ?_)
    · skip
      refine Kd.R_append_rows_step Kd.string (w0 := w5) w5.heap.size (by rfl) (.const (.slice none 0 0)) (.tmp 38) 33 9 (.string ⟨#[]⟩) 16 rfl Tryd.underlying33 info9 rfl (by decide) (by omega) (.slice none 0 0) ([] : List ByteArray) (tl) _ _ _ (fun _ => True) (fun _ => False) rfl rfl ?aO ?aR (fun _ _ h => h) (fun _ h => h.elim) ?aF ?aB ?aS ?aL ?_
      (case aR => exact KT.out)
      (case aB => exact Below.refl _ _)
      (case aF => exact fun _ _ => trivial)
      (case aO => exact Kd.R_nil _ _ _ _ _)
      (case aS => exact Nat.le_refl _)
      (case aL => have hl1 := HLT.out; have hl2 := HLD.out; simp only [List.length_nil, List.length_append, List.length_singleton]; omega)
      intro v1 w6 ho hb hg hat
      refine hK.out _ _ (HS.out _ hb) (fun hHeld => ?_)
      clear hK K
      refine nm_ 39 ?_
      refine one_ (i := 12) (N := some 48) #[true, true, true, true, true, true, true, true, true, true, true, true, true, false, true, true, true, false, false] rfl rfl (one_of HT_.out (by kernel_rfl)) (by decide) (fun K hK => ?_)
      refine Kd.R_lit_step Kd.string w6.heap.size 9 ?hg (N := 48) ?hd (xs := [bi]) (inner := [.string bi]) (ok := fun _ => True) (okp := fun _ => True) ?hr ?hp (fun _ hk => hk) trivial (Below.refl _ _) (Nat.le_refl _) (by simp) ?_; (case hd => rfl); (case hg => rfl); (case hr => first | (go_simp; done) | (go_simp; rfl)); (case hp => exact Reps.one (show Kd.M Kd.string _ _ _ bi [.string bi] from rfl) (Reps.none _ _))
      intro v2 w7 ho2 hb2 hg2 hnew
      refine hK.out _ _ (HS.out _ (below_step hb hb2)) (fun hHeld => ?_)
      refine nm_ 48 ?_
      exact norm_ (by simp only [putAll, Act.put, List.setIfInBounds_toArray, List.set_cons_zero, List.set_cons_succ]) (hCont (v1, v2) _ ⟨Kd.R_below ho hb2, Kd.R_lower ho2 (below_size hb), below_step hb hb2⟩)
    · skip
      refine Kd.R_lit_step Kd.string w5.heap.size 9 ?hg (N := 48) ?hd (xs := [bi]) (inner := [.string bi]) (ok := fun _ => True) (okp := fun _ => True) ?hr ?hp (fun _ hk => hk) trivial (Below.refl _ _) (Nat.le_refl _) (by simp) ?_; (case hd => rfl); (case hg => rfl); (case hr => first | (go_simp; done) | (go_simp; rfl)); (case hp => exact Reps.one (show Kd.M Kd.string _ _ _ bi [.string bi] from rfl) (Reps.none _ _))
      intro v2 w6 ho2 hb hg2 hnew
      refine hK.out _ _ (HS.out _ hb) (fun hHeld => ?_)
      clear hK K
      refine nm_ 48 ?_
      refine one_ (i := 3) (N := some 39) #[true, true, true, true, true, true, true, true, true, true, true, true, true, false, true, true, true, false, false] rfl rfl (one_of HT_.out (by kernel_rfl)) (by decide) (fun K hK => ?_)
      refine Kd.R_append_rows_step Kd.string (w0 := w5) w5.heap.size (by rfl) (.const (.slice none 0 0)) (.tmp 38) 33 9 (.string ⟨#[]⟩) 16 rfl Tryd.underlying33 info9 rfl (by decide) (by omega) (.slice none 0 0) ([] : List ByteArray) (tl) _ _ _ (fun _ => True) (fun _ => False) rfl rfl ?aO ?aR (fun _ _ h => h) (fun _ h => h.elim) ?aF ?aB ?aS ?aL ?_
      (case aR => exact Kd.C_below KT.out hb)
      (case aB => exact hb)
      (case aF => exact fun _ _ => trivial)
      (case aO => exact Kd.R_nil _ _ _ _ _)
      (case aS => exact below_size hb)
      (case aL => have hl1 := HLT.out; have hl2 := HLD.out; simp only [List.length_nil, List.length_append, List.length_singleton]; omega)
      intro v1 w7 ho hb7 hg hat
      refine hK.out _ _ (HS.out _ hb7) (fun hHeld => ?_)
      refine nm_ 39 ?_
      exact norm_ (by simp only [putAll, Act.put, List.setIfInBounds_toArray, List.set_cons_zero, List.set_cons_succ]) (hCont (v1, v2) _ ⟨ho, Kd.R_mono (Kd.R_after (ok := fun _ => True) (Kd.R_apart_nil ho2) hg hat) (fun _ _ => trivial), hb7⟩)
  rintro ⟨va, vb⟩ w8 ⟨ha, hb, hbel⟩
  obtain ⟨Aa, ca, ea⟩ := Kd.R_slice ha
  obtain ⟨Ab, cb, eb⟩ := Kd.R_slice hb
  simp only at ea eb ha hb
  subst ea eb
  simp only [putAll, Act.put, List.setIfInBounds_toArray, List.set_cons_zero, List.set_cons_succ]
  refine one_ (i := 13) (N := some 49) #[true, true, true, true, true, true, true, true, true, true, true, true, true, true, true, true, true, false, false] rfl rfl (one_of HT_.out (by kernel_rfl)) (by decide) (fun K hK => ?_)
  refine Kd.R_append_rows_step Kd.string (w0 := w5) w5.heap.size (by rfl) (.tmp 39) (.tmp 48) 33 9 (.string ⟨#[]⟩) 16 rfl Tryd.underlying33 info9 rfl (by decide) (by omega) (.slice Aa tl.length ca) (tl) ([bi]) _ _ _ (fun _ => True) (fun _ => False) rfl rfl ?aO ?aR (fun _ _ h => h) (fun _ h => h.elim) ?aF ?aB ?aS ?aL ?_
  (case aR => exact (Kd.R_reads' hb).2.2)
  (case aB => exact hbel)
  (case aF => exact fun _ _ => trivial)
  (case aO => exact ha)
  (case aS => exact below_size hbel)
  (case aL => have hl1 := HLT.out; have hl2 := HLD.out; simp only [List.length_nil, List.length_append, List.length_singleton]; omega)
  intro v3 w9 ho9 hb9 hg9 hat9
  refine hK.out _ _ (HS.out _ hb9) (fun hHeld => ?_)
  clear hK K
  refine nm_ 49 ?_
  refine one_ (i := 17) (N := some 53) #[true, true, true, true, true, true, true, true, true, true, true, true, true, true, true, true, true, true, false] rfl rfl (one_of HT_.out (by kernel_rfl)) (by decide) (fun K hK => ?_)
  refine Kd.R_append_rows_step Kd.string (w0 := w5) w5.heap.size (by rfl) (.tmp 49) (.tmp 52) 33 9 (.string ⟨#[]⟩) 16 rfl Tryd.underlying33 info9 rfl (by decide) (by omega) (v3) (tl ++ [bi]) (dl) _ _ _ (fun _ => True) (fun _ => False) rfl rfl ?aO ?aR (fun _ _ h => h) (fun _ h => h.elim) ?aF ?aB ?aS ?aL ?_
  (case aR => exact Kd.C_below KD.out hb9)
  (case aB => exact hb9)
  (case aF => exact fun _ _ => trivial)
  (case aO => exact ho9)
  (case aS => exact below_size hb9)
  (case aL => have hl1 := HLT.out; have hl2 := HLD.out; simp only [List.length_nil, List.length_append, List.length_singleton]; omega)
  intro v4 w10 ho10 hb10 hg10 hat10
  refine hK.out _ _ (HS.out _ hb10) (fun hHeld => ?_)
  clear hK K
  rw [HDT.out] at ho10
  obtain ⟨A4, c4, e4⟩ := Kd.R_slice ho10
  subst e4
  have KL := Aside0.mk (Kd.R_reads' ho10).2.2
  have KLc := Aside0.mk (Kd.R_reads' ho10).2.1
  replace HB := Aside0.mk (below_step HB.out hb10)
  clear ho10 hb10 hg10 hat10 ho9 hb9 hg9 hat9 ha hb hbel
  refine nm_ 53 ?_
  refine pu_ 18 10 (lb_ 19 524287) rfl rfl (ao_ HT_) ?_
  refine done_ (done_of HT_.out (by kernel_rfl)) ?_
  clear HS KT KD HLT HLD HDT KB KG hcutT hcutD hHeld HT_ HW_

  go_upto_region 7 with (first
    | (go_at_call 6; refine (parse_walk 40 A4 c4 (wrongL i j) zeroPL 2 _ KL.out KLc.out (HT.out.below HB.out) (wrong_eval i j hi21 hj9)).mono ?_; rintro e wc6 ⟨rfl, hb⟩; replace HB := Aside0.mk (below_step HB.out hb); clear hb)
    | ((with_reducible refine gate_dst (N := 11) rfl ?_); refine box_e 11 zeroPL.c 25 ?_; intro g11 hg wb6 hbox hb; have H11 := Aside0.mk hbox; have G6_HB := Aside0.mk (show w.heap.size ≤ g11 by {rw [hg]; exact below_size HB.out}); replace HB := Aside0.mk (below_step HB.out hb); clear hg hbox hb)
    | ((with_reducible refine gate_store (t := 25) (p := 11) rfl ?_); refine store_event (t := 25) (p := 11) (v := .tmp 57) (w1 := (World.setRow wb6 g11 zeroPL.c)) ?hg_6 ?ho_6 ?hn_6 ?hr_6 ?_; (case ho_6 => rfl); (case hg_6 => rfl); (case hn_6 => rfl); (case hr_6 => exact store_ev (tp := 11) (tv := 57) (p := zeroPL) (q := zeroPL) rfl rfl rfl H11.out); intro ws6 hw; replace H11 := Aside0.mk (show ws6.heap[g11]? = some (.cells zeroPL.c 25 (0, 0)) by {rw [hw]; exact setRow_heap _ g11 _ _ 25 (0, 0) H11.out}); replace HB := Aside0.mk (show Below w.heap.size w ws6 by {rw [hw]; exact below_setRow HB.out G6_HB.out _}); clear hw))
  clear G6_HB
  have B6 := Aside0.mk (Below.refl ws6.heap.size ws6)
  go_upto_region 8 with (first
    | (go_at_call 6; generalize hW : World.alloc ws6 _ = wz7; have hz : Below ws6.heap.size ws6 wz7 := by {rw [← hW]; exact below_alloc (Below.refl _ _) _}; replace HB := Aside0.mk (below_step HB.out hz); replace B6 := Aside0.mk (below_step B6.out hz); have hk : Kd.C Kd.string wz7 (some ⟨ws6.heap.size, 0, none⟩) qL.length qL := by {rw [← hW]; exact (Kd.R_reads' (split_owns ws6 qL 3 rfl (by unfold maxLen; omega))).2.2}; clear hW; have hq := parse_walk 40 (some ⟨ws6.heap.size, 0, none⟩) 3 qL zeroPL 2 wz7 hk (by decide) (HT.out.below HB.out) qL_eval; refine hq.mono ?_; clear hq hk hz; rintro e wc7 ⟨rfl, hb⟩; replace HB := Aside0.mk (below_step HB.out hb); replace B6 := Aside0.mk (below_step B6.out hb); clear hb)
    | ((with_reducible refine gate_dst (N := 13) rfl ?_); refine box_e 13 zeroPL.c 25 ?_; intro g13 hg wb7 hbox hb; have H13 := Aside0.mk hbox; have G7_HB := Aside0.mk (show w.heap.size ≤ g13 by {rw [hg]; exact below_size HB.out}); have G7_B6 := Aside0.mk (show ws6.heap.size ≤ g13 by {rw [hg]; exact below_size B6.out}); replace HB := Aside0.mk (below_step HB.out hb); replace B6 := Aside0.mk (below_step B6.out hb); clear hg hbox hb)
    | ((with_reducible refine gate_store (t := 25) (p := 13) rfl ?_); refine store_event (t := 25) (p := 13) (v := .tmp 62) (w1 := (World.setRow wb7 g13 zeroPL.c)) ?hg_7 ?ho_7 ?hn_7 ?hr_7 ?_; (case ho_7 => rfl); (case hg_7 => rfl); (case hn_7 => rfl); (case hr_7 => exact store_ev (tp := 13) (tv := 62) (p := zeroPL) (q := zeroPL) rfl rfl rfl H13.out); intro ws7 hw; replace H13 := Aside0.mk (show ws7.heap[g13]? = some (.cells zeroPL.c 25 (0, 0)) by {rw [hw]; exact setRow_heap _ g13 _ _ 25 (0, 0) H13.out}); replace HB := Aside0.mk (show Below w.heap.size w ws7 by {rw [hw]; exact below_setRow HB.out G7_HB.out _}); replace B6 := Aside0.mk (show Below ws6.heap.size ws6 ws7 by {rw [hw]; exact below_setRow B6.out G7_B6.out _}); clear hw))
  clear G7_HB
  clear G7_B6
  have B7 := Aside0.mk (Below.refl ws7.heap.size ws7)
  go_upto_region 9 with (first
    | (go_at_call 6; generalize hW : World.alloc ws7 _ = wz8; have hz : Below ws7.heap.size ws7 wz8 := by {rw [← hW]; exact below_alloc (Below.refl _ _) _}; replace HB := Aside0.mk (below_step HB.out hz); replace B6 := Aside0.mk (below_step B6.out hz); replace B7 := Aside0.mk (below_step B7.out hz); have hk : Kd.C Kd.string wz8 (some ⟨ws7.heap.size, 0, none⟩) rL.length rL := by {rw [← hW]; exact (Kd.R_reads' (split_owns ws7 rL 4 rfl (by unfold maxLen; omega))).2.2}; clear hW; have hq := parse_walk 40 (some ⟨ws7.heap.size, 0, none⟩) 4 rL rP 0 wz8 hk (by decide) (HT.out.below HB.out) rL_eval; refine hq.mono ?_; clear hq hk hz; rintro e wc8 ⟨rfl, hb⟩; replace HB := Aside0.mk (below_step HB.out hb); replace B6 := Aside0.mk (below_step B6.out hb); replace B7 := Aside0.mk (below_step B7.out hb); clear hb)
    | ((with_reducible refine gate_dst (N := 15) rfl ?_); refine box_e 15 zeroPL.c 25 ?_; intro g15 hg wb8 hbox hb; have H15 := Aside0.mk hbox; have G8_HB := Aside0.mk (show w.heap.size ≤ g15 by {rw [hg]; exact below_size HB.out}); have G8_B6 := Aside0.mk (show ws6.heap.size ≤ g15 by {rw [hg]; exact below_size B6.out}); have G8_B7 := Aside0.mk (show ws7.heap.size ≤ g15 by {rw [hg]; exact below_size B7.out}); replace HB := Aside0.mk (below_step HB.out hb); replace B6 := Aside0.mk (below_step B6.out hb); replace B7 := Aside0.mk (below_step B7.out hb); clear hg hbox hb)
    | ((with_reducible refine gate_store (t := 25) (p := 15) rfl ?_); refine store_event (t := 25) (p := 15) (v := .tmp 67) (w1 := (World.setRow wb8 g15 rP.c)) ?hg_8 ?ho_8 ?hn_8 ?hr_8 ?_; (case ho_8 => rfl); (case hg_8 => rfl); (case hn_8 => rfl); (case hr_8 => exact store_ev (tp := 15) (tv := 67) (p := zeroPL) (q := rP) rfl rfl rfl H15.out); intro ws8 hw; replace H15 := Aside0.mk (show ws8.heap[g15]? = some (.cells rP.c 25 (0, 0)) by {rw [hw]; exact setRow_heap _ g15 _ _ 25 (0, 0) H15.out}); replace HB := Aside0.mk (show Below w.heap.size w ws8 by {rw [hw]; exact below_setRow HB.out G8_HB.out _}); replace B6 := Aside0.mk (show Below ws6.heap.size ws6 ws8 by {rw [hw]; exact below_setRow B6.out G8_B6.out _}); replace B7 := Aside0.mk (show Below ws7.heap.size ws7 ws8 by {rw [hw]; exact below_setRow B7.out G8_B7.out _}); clear hw))
  clear G8_HB
  clear G8_B6
  clear G8_B7
  have B8 := Aside0.mk (Below.refl ws8.heap.size ws8)
  go_upto_region 10 with (first
    | (go_at_call 6; generalize hW : World.alloc ws8 _ = wz9; have hz : Below ws8.heap.size ws8 wz9 := by {rw [← hW]; exact below_alloc (Below.refl _ _) _}; replace HB := Aside0.mk (below_step HB.out hz); replace B6 := Aside0.mk (below_step B6.out hz); replace B7 := Aside0.mk (below_step B7.out hz); replace B8 := Aside0.mk (below_step B8.out hz); have hk : Kd.C Kd.string wz9 (some ⟨ws8.heap.size, 0, none⟩) iL.length iL := by {rw [← hW]; exact (Kd.R_reads' (split_owns ws8 iL 4 rfl (by unfold maxLen; omega))).2.2}; clear hW; have hq := parse_walk 40 (some ⟨ws8.heap.size, 0, none⟩) 4 iL zeroPL 2 wz9 hk (by decide) (HT.out.below HB.out) iL_eval; refine hq.mono ?_; clear hq hk hz; rintro e wc9 ⟨rfl, hb⟩; replace HB := Aside0.mk (below_step HB.out hb); replace B6 := Aside0.mk (below_step B6.out hb); replace B7 := Aside0.mk (below_step B7.out hb); replace B8 := Aside0.mk (below_step B8.out hb); clear hb)
    | ((with_reducible refine gate_dst (N := 17) rfl ?_); refine box_e 17 zeroPL.c 25 ?_; intro g17 hg wb9 hbox hb; have H17 := Aside0.mk hbox; have G9_HB := Aside0.mk (show w.heap.size ≤ g17 by {rw [hg]; exact below_size HB.out}); have G9_B6 := Aside0.mk (show ws6.heap.size ≤ g17 by {rw [hg]; exact below_size B6.out}); have G9_B7 := Aside0.mk (show ws7.heap.size ≤ g17 by {rw [hg]; exact below_size B7.out}); have G9_B8 := Aside0.mk (show ws8.heap.size ≤ g17 by {rw [hg]; exact below_size B8.out}); replace HB := Aside0.mk (below_step HB.out hb); replace B6 := Aside0.mk (below_step B6.out hb); replace B7 := Aside0.mk (below_step B7.out hb); replace B8 := Aside0.mk (below_step B8.out hb); clear hg hbox hb)
    | ((with_reducible refine gate_store (t := 25) (p := 17) rfl ?_); refine store_event (t := 25) (p := 17) (v := .tmp 72) (w1 := (World.setRow wb9 g17 zeroPL.c)) ?hg_9 ?ho_9 ?hn_9 ?hr_9 ?_; (case ho_9 => rfl); (case hg_9 => rfl); (case hn_9 => rfl); (case hr_9 => exact store_ev (tp := 17) (tv := 72) (p := zeroPL) (q := zeroPL) rfl rfl rfl H17.out); intro ws9 hw; replace H17 := Aside0.mk (show ws9.heap[g17]? = some (.cells zeroPL.c 25 (0, 0)) by {rw [hw]; exact setRow_heap _ g17 _ _ 25 (0, 0) H17.out}); replace HB := Aside0.mk (show Below w.heap.size w ws9 by {rw [hw]; exact below_setRow HB.out G9_HB.out _}); replace B6 := Aside0.mk (show Below ws6.heap.size ws6 ws9 by {rw [hw]; exact below_setRow B6.out G9_B6.out _}); replace B7 := Aside0.mk (show Below ws7.heap.size ws7 ws9 by {rw [hw]; exact below_setRow B7.out G9_B7.out _}); replace B8 := Aside0.mk (show Below ws8.heap.size ws8 ws9 by {rw [hw]; exact below_setRow B8.out G9_B8.out _}); clear hw))
  clear G9_HB
  clear G9_B6
  clear G9_B7
  clear G9_B8
  clear H17
  go_upto_region 11 with (first
    | (go_at_call 6; generalize hW : World.alloc ws9 _ = wz10; have hz : Below ws9.heap.size ws9 wz10 := by {rw [← hW]; exact below_alloc (Below.refl _ _) _}; replace HB := Aside0.mk (below_step HB.out hz); replace B6 := Aside0.mk (below_step B6.out hz); replace B7 := Aside0.mk (below_step B7.out hz); replace B8 := Aside0.mk (below_step B8.out hz); have hk : Kd.C Kd.string wz10 (some ⟨ws9.heap.size, 0, none⟩) jL.length jL := by {rw [← hW]; exact (Kd.R_reads' (split_owns ws9 jL 4 rfl (by unfold maxLen; omega))).2.2}; clear hW; have hq := parse_walk 40 (some ⟨ws9.heap.size, 0, none⟩) 4 jL jP 0 wz10 hk (by decide) (HT.out.below HB.out) jL_eval; refine hq.mono ?_; clear hq hk hz; rintro e wc10 ⟨rfl, hb⟩; replace HB := Aside0.mk (below_step HB.out hb); replace B6 := Aside0.mk (below_step B6.out hb); replace B7 := Aside0.mk (below_step B7.out hb); replace B8 := Aside0.mk (below_step B8.out hb); clear hb)
    | ((with_reducible refine gate_dst (N := 19) rfl ?_); refine box_e 19 zeroPL.c 25 ?_; intro g19 hg wb10 hbox hb; have H19 := Aside0.mk hbox; have G10_HB := Aside0.mk (show w.heap.size ≤ g19 by {rw [hg]; exact below_size HB.out}); have G10_B6 := Aside0.mk (show ws6.heap.size ≤ g19 by {rw [hg]; exact below_size B6.out}); have G10_B7 := Aside0.mk (show ws7.heap.size ≤ g19 by {rw [hg]; exact below_size B7.out}); have G10_B8 := Aside0.mk (show ws8.heap.size ≤ g19 by {rw [hg]; exact below_size B8.out}); replace HB := Aside0.mk (below_step HB.out hb); replace B6 := Aside0.mk (below_step B6.out hb); replace B7 := Aside0.mk (below_step B7.out hb); replace B8 := Aside0.mk (below_step B8.out hb); clear hg hbox hb)
    | ((with_reducible refine gate_store (t := 25) (p := 19) rfl ?_); refine store_event (t := 25) (p := 19) (v := .tmp 77) (w1 := (World.setRow wb10 g19 jP.c)) ?hg_10 ?ho_10 ?hn_10 ?hr_10 ?_; (case ho_10 => rfl); (case hg_10 => rfl); (case hn_10 => rfl); (case hr_10 => exact store_ev (tp := 19) (tv := 77) (p := zeroPL) (q := jP) rfl rfl rfl H19.out); intro ws10 hw; replace H19 := Aside0.mk (show ws10.heap[g19]? = some (.cells jP.c 25 (0, 0)) by {rw [hw]; exact setRow_heap _ g19 _ _ 25 (0, 0) H19.out}); replace HB := Aside0.mk (show Below w.heap.size w ws10 by {rw [hw]; exact below_setRow HB.out G10_HB.out _}); replace B6 := Aside0.mk (show Below ws6.heap.size ws6 ws10 by {rw [hw]; exact below_setRow B6.out G10_B6.out _}); replace B7 := Aside0.mk (show Below ws7.heap.size ws7 ws10 by {rw [hw]; exact below_setRow B7.out G10_B7.out _}); replace B8 := Aside0.mk (show Below ws8.heap.size ws8 ws10 by {rw [hw]; exact below_setRow B8.out G10_B8.out _}); clear hw))
  clear G10_HB
  clear G10_B6
  clear G10_B7
  clear G10_B8
  clear H19
  go_upto_region 12 with (first
    | (go_at_call 6; generalize hW : World.alloc ws10 _ = wz11; have hz : Below ws10.heap.size ws10 wz11 := by {rw [← hW]; exact below_alloc (Below.refl _ _) _}; replace HB := Aside0.mk (below_step HB.out hz); replace B6 := Aside0.mk (below_step B6.out hz); replace B7 := Aside0.mk (below_step B7.out hz); replace B8 := Aside0.mk (below_step B8.out hz); have hk : Kd.C Kd.string wz11 (some ⟨ws10.heap.size, 0, none⟩) mL.length mL := by {rw [← hW]; exact (Kd.R_reads' (split_owns ws10 mL 4 rfl (by unfold maxLen; omega))).2.2}; clear hW; have hq := parse_walk 40 (some ⟨ws10.heap.size, 0, none⟩) 4 mL zeroPL 2 wz11 hk (by decide) (HT.out.below HB.out) mL_eval; refine hq.mono ?_; clear hq hk hz; rintro e wc11 ⟨rfl, hb⟩; replace HB := Aside0.mk (below_step HB.out hb); replace B6 := Aside0.mk (below_step B6.out hb); replace B7 := Aside0.mk (below_step B7.out hb); replace B8 := Aside0.mk (below_step B8.out hb); clear hb)
    | ((with_reducible refine gate_dst (N := 21) rfl ?_); refine box_e 21 zeroPL.c 25 ?_; intro g21 hg wb11 hbox hb; have H21 := Aside0.mk hbox; have G11_HB := Aside0.mk (show w.heap.size ≤ g21 by {rw [hg]; exact below_size HB.out}); have G11_B6 := Aside0.mk (show ws6.heap.size ≤ g21 by {rw [hg]; exact below_size B6.out}); have G11_B7 := Aside0.mk (show ws7.heap.size ≤ g21 by {rw [hg]; exact below_size B7.out}); have G11_B8 := Aside0.mk (show ws8.heap.size ≤ g21 by {rw [hg]; exact below_size B8.out}); replace HB := Aside0.mk (below_step HB.out hb); replace B6 := Aside0.mk (below_step B6.out hb); replace B7 := Aside0.mk (below_step B7.out hb); replace B8 := Aside0.mk (below_step B8.out hb); clear hg hbox hb)
    | ((with_reducible refine gate_store (t := 25) (p := 21) rfl ?_); refine store_event (t := 25) (p := 21) (v := .tmp 82) (w1 := (World.setRow wb11 g21 zeroPL.c)) ?hg_11 ?ho_11 ?hn_11 ?hr_11 ?_; (case ho_11 => rfl); (case hg_11 => rfl); (case hn_11 => rfl); (case hr_11 => exact store_ev (tp := 21) (tv := 82) (p := zeroPL) (q := zeroPL) rfl rfl rfl H21.out); intro ws11 hw; replace H21 := Aside0.mk (show ws11.heap[g21]? = some (.cells zeroPL.c 25 (0, 0)) by {rw [hw]; exact setRow_heap _ g21 _ _ 25 (0, 0) H21.out}); replace HB := Aside0.mk (show Below w.heap.size w ws11 by {rw [hw]; exact below_setRow HB.out G11_HB.out _}); replace B6 := Aside0.mk (show Below ws6.heap.size ws6 ws11 by {rw [hw]; exact below_setRow B6.out G11_B6.out _}); replace B7 := Aside0.mk (show Below ws7.heap.size ws7 ws11 by {rw [hw]; exact below_setRow B7.out G11_B7.out _}); replace B8 := Aside0.mk (show Below ws8.heap.size ws8 ws11 by {rw [hw]; exact below_setRow B8.out G11_B8.out _}); clear hw))
  clear G11_HB
  clear G11_B6
  clear G11_B7
  clear G11_B8
  clear H21
  replace H11 := Aside0.mk (blk_below H11.out B6.out)
  replace H13 := Aside0.mk (blk_below H13.out B7.out)
  replace H15 := Aside0.mk (blk_below H15.out B8.out)
  have a13 := (blk_cell H15.out 13).trans (show _ = some (.int .i64 1125899906842624) from rfl)
  clear B6 B7 B8 H15
  go_wp2_with (first
    | ((with_reducible refine gate_dst (N := 87) rfl ?_); refine load_event (.agg #[.bool false, .bool false, .bool false, .bool false, .bool false, .bool false, .bool false, .bool false, .int .i64 0, .string ⟨#[]⟩, .string ⟨#[]⟩, .int .i64 0, .int .i64 0, .int .i64 0, .int .i64 0, .int .i64 0, .bool false, .bool false, .bool false, .bool false, .bool false, .bool false, .bool false, .bool false, .bool false, .bool false]) (by rfl) (load_ev (tp := 11) (p := zeroPL) rfl rfl H11.out) ?_)
    | ((with_reducible refine gate_dst (N := 96) rfl ?_); refine load_event (.agg #[.bool false, .bool false, .bool false, .bool false, .bool false, .bool false, .bool false, .bool false, .int .i64 0, .string ⟨#[]⟩, .string ⟨#[]⟩, .int .i64 0, .int .i64 0, .int .i64 0, .int .i64 0, .int .i64 0, .bool false, .bool false, .bool false, .bool false, .bool false, .bool false, .bool false, .bool false, .bool false, .bool false]) (by rfl) (load_ev (tp := 13) (p := zeroPL) rfl rfl H13.out) ?_)
    | (go_at_call 3; refine (runs_walk _ (HT.out.below HB.out)).mono ?_; rintro e wf ⟨rfl, hb⟩; replace HB := Aside0.mk (below_step HB.out hb); clear hb))
  go_ret
  exact ⟨rfl, HB.out⟩
end Go.Proofs.YtbmhfnncagncmaaDoor.P
