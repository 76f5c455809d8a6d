/- The walk of OperandOrder, the plans whole. No conditions beyond what its plain parts come to. -/
import Derived.Test.YtbmhfnncagncmaaDoorPx0
import Derived.Test.YtbmhfnncagncmaaDoorPx2
import Derived.Test.YtbmhfnncagncmaaDoorOprR
import Derived.Test.YtbmhfnncagncmaaDoorPx24
import Derived.Test.YtbmhfnncagncmaaDoorOrdP
namespace Go.Proofs.YtbmhfnncagncmaaDoor.P
open Go.RowKit Go.Proofs.YtbmhfnncagncmaaDoorW.PrintWords Go.Proofs.YtbmhfnncagncmaaDoorW.PrintLast Go.Proofs.YtbmhfnncagncmaaDoorW.PrintMore
attribute [local go_sem] max2_int min2_int max_two min_two max_three min_three max_four min_four
set_option linter.unusedVariables false
set_option linter.unusedSimpArgs false
theorem eqP25 (d : Nat) (w : World) (p : PL) : (Op.equalIn (d + 3) 25 (.agg p.c) (.agg p.c)).run Tryd.prog w = .ok true w := by
  have h := eqA25 d w p.swab p.swab p.block p.block p.unblock p.unblock p.lcase p.lcase p.ucase p.ucase p.ascii p.ascii p.ebcdic p.ebcdic p.ibm p.ibm p.cbs p.cbs p.src p.src p.dst p.dst p.ibs p.ibs p.obs p.obs p.skip p.skip p.seek p.seek p.count p.count p.all p.all p.direct p.direct p.full p.full p.sync p.sync p.noerror p.noerror p.notrunc p.notrunc p.sparse p.sparse p.fsync p.fsync p.excl p.excl p.nocreat p.nocreat
  refine Eq.trans h ?_
  simp
attribute [local go_sem high] eqP25
theorem R_row_ {α : Type} {d : Kd α} {e : TypeId} {w : World} {base : Nat} {ok : Nat → Prop} {v : Value} {xs : List α} (h : d.R e w base ok v xs) {g : Nat} (hok : ∀ k, ok k → k ≠ g) (cs : Array Value) : d.R e (w.setRow g cs) base ok v xs := Kd.R_step h (fun k ho _ => setRow_other w g k cs (hok k ho))
def ord_T4 : Bool × List (List Nat × List Nat) := (true, [([], []), ([], []), ([0, 1], [0, 1]), ([2], [2]), ([], []), ([], []), ([4, 5], [4, 5]), ([3, 6, 3], [3, 6]), ([7, 7], [7]), ([8], [8]), ([9], [9]), ([9], [9]), ([], []), ([12, 10, 8, 0, 1, 2, 3, 4, 5, 6, 7, 8, 9, 10, 12], [10, 12]), ([11, 13, 0, 1, 2, 3, 4, 5, 6, 7, 8, 9, 10, 11, 12, 13], [11])])
def ord_B4 : List Nat := [0, 0, 3, 7, 0, 0, 48, 127, 255, 511, 1023, 1023, 0, 6143, 16383]
theorem ord_tab4 : rtab .any (opsOf Tryd.f4 4) = ord_T4 := by kernel_rfl
theorem ord_bits4 : waitsOk ord_T4.2 ord_B4 = true := by kernel_rfl
theorem nx_ {P : Program} {md : Region.Mode} {ops : Array Oper} {Q : Exit → Act → World → Prop} {S : World → Prop} {ds : List Nat} {fuel : Nat} {l : Array Bool} {a a' : Act} {w : World} (h : wpAnyLast P md ops Q S ds fuel l a' w)
    (ha : a = a' := by first | (simp only [putAll, Act.put, List.setIfInBounds_toArray, List.set_cons_zero, List.set_cons_succ]; done) | (simp only [putAll, Act.put, List.setIfInBounds_toArray, List.set_cons_zero, List.set_cons_succ]; rfl)) : wpAnyLast P md ops Q S ds fuel l a w := norm_ ha h
theorem ky_ {A B : Prop} (h : Aside0 A) (f : A → B := by intro h_; (with_reducible repeat (first | apply Kd.R_alloc | apply Kd.R_drewN | apply Kd.R_drew)); exact h_) : B := f h.out
abbrev bz_0 : Array Bool := #[false, false, false, false, false, false, false, false, false, false, false, false, false, false, false]
abbrev bz_1 : Array Bool := #[true, true, true, true, true, true, true, true, true, true, true, true, true, false, false]
abbrev bz_2 : Array Bool := #[true, true, true, true, true, true, true, false, false, false, false, false, false, false, false]
abbrev bz_3 : Array Bool := #[true, true, true, false, true, true, true, false, false, false, false, false, true, false, false]
abbrev bz_4 : Array Bool := #[true, true, true, true, true, true, true, true, false, false, false, false, false, false, false]
abbrev bz_5 : Array Bool := #[true, true, true, true, true, true, true, false, false, false, false, false, true, false, false]
abbrev bz_6 : Array Bool := #[true, true, true, true, true, true, true, true, true, false, false, false, false, false, false]
abbrev bz_7 : Array Bool := #[true, true, true, true, true, true, true, true, false, false, false, false, true, false, false]
abbrev bz_8 : Array Bool := #[true, true, true, true, true, true, true, true, true, false, false, false, true, false, false]
abbrev bz_9 : Array Bool := #[true, true, true, true, true, true, true, true, true, true, true, true, true, true, false]
set_option maxHeartbeats 8000000 in
set_option maxRecDepth 100000 in
theorem order_walk (k : Nat) (a0_0 : Int) (a0_1 : Int) (a0_2 : Int) (a0_3 : Int) (a0_4 : Int) (a0_5 : Int) (a0_6 : Int) (a0_7 : Int) (a0_8 : Int) (a0_9 : Int) (a0_10 : Int) (a1 : Int) (t301 : List ByteArray) (p : PL) (rc : Int) (mm : List ByteArray) (cv : ByteArray) (ji6 : Int) (w : World) (A30 : salvorkeep_Dd_Args.f k a0_0 a0_1 a0_2 a0_3 a0_4 a0_5 a0_6 a0_7 a0_8 a0_9 a0_10 false = some t301) (c4 : ¬ (t301.length : Int) = 0) (hlen : t301.length ≤ 1000) (A50 : parseF k t301 = some (p, rc)) (hji6 : (Int.tmod (wrap64 (a1)) (t301.length : Int)) = ji6) (c7 : 0 ≤ (ji6)) (c8 : (ji6) ≤ (t301.length : Int)) (A130 : parseF k ((([] : List ByteArray) ++ t301.drop ((ji6) : Int).toNat) ++ t301.take ((ji6) : Int).toNat) = some (p, rc)) (H : ordL k t301 [] (⟨#[]⟩ : ByteArray) 0 = some (mm, cv)) (hp3 : if cv.toList = ([] : List UInt8) then parseF k mm = some (p, rc) else parseF k (mm ++ [(⟨#[99, 111, 110, 118, 61]⟩ : ByteArray) ++ cv, (⟨#[99, 111, 110, 118, 61]⟩ : ByteArray) ++ cv]) = some (p, rc)) (hmm : mm.length ≤ 1000) (hcv : cv.size ≤ 1000) (htab : TabAt w) :
  Calls Tryd.prog 4 #[.agg #[.int .u8 a0_0, .int .u8 a0_1, .int .u8 a0_2, .int .u8 a0_3, .int .u8 a0_4, .int .u8 a0_5, .int .u8 a0_6, .int .u8 a0_7, .int .u8 a0_8, .int .u8 a0_9, .int .u32 a0_10], .int .u8 a1] w fun e w' => e = .returned (.bool true) ∧ Below w.heap.size w w' := by
 have HTAB := Aside0.mk htab
 clear htab
 have hu32 := Tryd.underlying32
 have hu25 := Tryd.underlying25
 have HB := Aside0.mk (Below.refl w.heap.size w)
 have hcc : (rc == rc) = true := by simp
 have HP3 := Aside0.mk hp3
 have HMM := Aside0.mk hmm
 have HCV := Aside0.mk hcv
 clear hp3 hmm hcv
 have A3 := Aside0.mk A30
 clear A30
 have c4b0 : ((t301.length : Int) == 0) = false := beq_eq_false_iff_ne.mpr c4
 have c4b1 : ((t301.length : Int) != 0) = true := bne_iff_ne.mpr c4
 have c4b2 : ¬ (t301 = []) := fun h_ => c4 (by rw [h_]; rfl)
 have A5 := Aside0.mk A50
 clear A50
 have c7b0 := eq_true c7
 have c7b1 : decide (0 ≤ (ji6)) = true := decide_eq_true c7
 have c8b0 := eq_true c8
 have c8b1 : decide ((ji6) ≤ (t301.length : Int)) = true := decide_eq_true c8
 obtain ⟨y332, hy332⟩ : ∃ y_ : List ByteArray, y_ = (t301.drop ((ji6) : Int).toNat) := ⟨_, rfl⟩
 rw [← hy332] at A130
 have Ny332 := Aside0.mk hy332
 have LMc9 := Aside0.mk (show ([] : List ByteArray).length + y332.length < 8796093022208 by rw [hy332, List.length_drop, List.length_nil]; omega)
 clear hy332
 obtain ⟨y336, hy336⟩ : ∃ y_ : List ByteArray, y_ = (([] : List ByteArray) ++ y332) := ⟨_, rfl⟩
 rw [← hy336] at A130
 have Ny336 := Aside0.mk hy336
 have hl336 : y336.length ≤ 1000 := by rw [hy336, List.nil_append, Ny332.out, List.length_drop]; omega
 clear hy336
 obtain ⟨y339, hy339⟩ : ∃ y_ : List ByteArray, y_ = (t301.take ((ji6) : Int).toNat) := ⟨_, rfl⟩
 rw [← hy339] at A130
 have Ny339 := Aside0.mk hy339
 have LMc12 := Aside0.mk (show y336.length + y339.length < 8796093022208 by rw [hy339, List.length_take]; omega)
 clear hy339 hl336 hlen c7 c8
 obtain ⟨y343, hy343⟩ : ∃ y_ : List ByteArray, y_ = (y336 ++ y339) := ⟨_, rfl⟩
 rw [← hy343] at A130
 have Ny343 := Aside0.mk hy343
 clear hy343
 have A13 := Aside0.mk A130
 clear A130
 have H' := Aside0.mk H
 clear H
 go_enter Tryd.func4, Tryd.ntmps4
 try go_wp2_with (first | ((with_reducible refine gate_dst (N := 2) rfl ?_); refine box_e 2 #[.int .u8 a0_0, .int .u8 a0_1, .int .u8 a0_2, .int .u8 a0_3, .int .u8 a0_4, .int .u8 a0_5, .int .u8 a0_6, .int .u8 a0_7, .int .u8 a0_8, .int .u8 a0_9, .int .u32 a0_10] 32 ?_; intro gb300 hg w14 hbox hb; have BK300 := Aside0.mk hbox; have GW300 := bg_ HB hg; have GE300 := bg_ HB hg; replace HB := bs_ HB hb; clear hb hbox hg; have hcz15_0 : w14.cell? ⟨gb300, 0, none⟩ = some (.int .u8 a0_0) := (blk_cell BK300.out 0).trans rfl; have hcz15_1 : w14.cell? ⟨gb300, 1, none⟩ = some (.int .u8 a0_1) := (blk_cell BK300.out 1).trans rfl; have hcz15_2 : w14.cell? ⟨gb300, 2, none⟩ = some (.int .u8 a0_2) := (blk_cell BK300.out 2).trans rfl; have hcz15_3 : w14.cell? ⟨gb300, 3, none⟩ = some (.int .u8 a0_3) := (blk_cell BK300.out 3).trans rfl; have hcz15_4 : w14.cell? ⟨gb300, 4, none⟩ = some (.int .u8 a0_4) := (blk_cell BK300.out 4).trans rfl; have hcz15_5 : w14.cell? ⟨gb300, 5, none⟩ = some (.int .u8 a0_5) := (blk_cell BK300.out 5).trans rfl; have hcz15_6 : w14.cell? ⟨gb300, 6, none⟩ = some (.int .u8 a0_6) := (blk_cell BK300.out 6).trans rfl; have hcz15_7 : w14.cell? ⟨gb300, 7, none⟩ = some (.int .u8 a0_7) := (blk_cell BK300.out 7).trans rfl; have hcz15_8 : w14.cell? ⟨gb300, 8, none⟩ = some (.int .u8 a0_8) := (blk_cell BK300.out 8).trans rfl; have hcz15_9 : w14.cell? ⟨gb300, 9, none⟩ = some (.int .u8 a0_9) := (blk_cell BK300.out 9).trans rfl; have hcz15_10 : w14.cell? ⟨gb300, 10, none⟩ = some (.int .u32 a0_10) := (blk_cell BK300.out 10).trans rfl; have hfz15_0 := blk_frozen BK300.out 0; have hfz15_1 := blk_frozen BK300.out 1; have hfz15_2 := blk_frozen BK300.out 2; have hfz15_3 := blk_frozen BK300.out 3; have hfz15_4 := blk_frozen BK300.out 4; have hfz15_5 := blk_frozen BK300.out 5; have hfz15_6 := blk_frozen BK300.out 6; have hfz15_7 := blk_frozen BK300.out 7; have hfz15_8 := blk_frozen BK300.out 8; have hfz15_9 := blk_frozen BK300.out 9; have hfz15_10 := blk_frozen BK300.out 10) | ((with_reducible refine gate_callee (f := 7) rfl ?_); refine gl_ (some 17) rfl rfl Tryd.func7 (by kernel_rfl) rfl #[.agg #[.int .u8 a0_0, .int .u8 a0_1, .int .u8 a0_2, .int .u8 a0_3, .int .u8 a0_4, .int .u8 a0_5, .int .u8 a0_6, .int .u8 a0_7, .int .u8 a0_8, .int .u8 a0_9, .int .u32 a0_10], .bool false] rfl ?_; (with_reducible refine (salvorkeep_Dd_Args.calls k a0_0 a0_1 a0_2 a0_3 a0_4 a0_5 a0_6 a0_7 a0_8 a0_9 a0_10 false t301 _ A3.out).mono ?_); rintro e w16 ⟨v302, rfl, ho0, hb⟩; refine ⟨_, rfl, ?_⟩; have HO303 := Aside0.mk (Kd.R_lower ho0 (below_size (bh_ HB))); replace BK300 := bb_ BK300 hb; replace HB := bs_ HB hb; (try clear hb); (try clear hb2); (try clear hk); (try clear hi); (try clear ho0); obtain ⟨Ao17, co17, eo17⟩ := Kd.R_slice HO303.out; subst eo17) | ((with_reducible refine gate_callee (f := 6) rfl ?_); refine gl_ (some 25) rfl rfl Tryd.func6 (by kernel_rfl) rfl #[.slice Ao17 t301.length co17] rfl ?_; (with_reducible refine (parse_walk k _ _ t301 p rc _ ?side1 ?side2 ?tb0_ A5.out).mono ?_); (case tb0_ => exact tb_ HTAB HB); (case side1 => repeat (first | exact (Kd.R_reads' HO303.out).2.2 | (with_reducible refine Kd.C_alloc ?_ _) | (with_reducible refine Kd.C_drewN ?_ _) | (with_reducible refine Kd.C_drew ?_))); (case side2 => exact (Kd.R_reads' HO303.out).2.1); rintro e w18 ⟨rfl, hb⟩; refine ⟨_, rfl, ?_⟩; have n0_ := Aside0.mk (Kd.R_below (ky_ HO303) hb); have n1_ := bb_ BK300 hb; have n2_ := bs_ HB hb; clear HO303; clear BK300; clear HB; have HO303 := n0_; have BK300 := n1_; have HB := n2_; clear n0_ n1_ n2_; (try clear hb)) | ((with_reducible refine gate_dst (N := 7) rfl ?_); refine box_e 7 zeroPL.c 25 ?_; intro gb331 hg w19 hbox hb; have n0_ := Aside0.mk (Kd.R_below (ky_ HO303) hb); have n1_ := bb_ BK300 hb; have n2_ := bs_ HB hb; have n3_ := Aside0.mk hbox; have n4_ := bg_ HB hg; have n5_ := bg_ HB hg; have n6_ := bn_ BK300 hg; have n7_ := bm_ BK300 hg; clear HO303; clear BK300; clear HB; have HO303 := n0_; have BK300 := n1_; have HB := n2_; have BK331 := n3_; have GW331 := n4_; have GE331 := n5_; have NB300_331 := n6_; have NB331_300 := n7_; clear n0_ n1_ n2_ n3_ n4_ n5_ n6_ n7_; clear hb hbox hg) | ((with_reducible refine gate_store (t := 25) (p := 7) rfl ?_); refine store_event (t := 25) (p := 7) (v := .tmp 26) (w1 := (World.setRow w19 gb331 p.c)) ?hg1 ?ho1 ?hn1 ?hr1 ?_; (case ho1 => rfl); (case hg1 => rfl); (case hn1 => rfl); (case hr1 => exact store_ev (tp := 7) (tv := 26) (p := zeroPL) (q := p) rfl rfl rfl BK331.out); intro w22 hw; replace HO303 := Aside0.mk (show Kd.R Kd.string 9 w22 w.heap.size (fun _ => True) (.slice Ao17 t301.length co17) t301 by {rw [hw]; exact Kd.R_mono (R_row_ (Kd.R_types HO303.out BK331.out (by decide)) (fun _ hk => hk.2) p.c) (fun _ hk => trivial)}); replace BK300 := Aside0.mk (show w22.heap[gb300]? = some (.cells #[.int .u8 a0_0, .int .u8 a0_1, .int .u8 a0_2, .int .u8 a0_3, .int .u8 a0_4, .int .u8 a0_5, .int .u8 a0_6, .int .u8 a0_7, .int .u8 a0_8, .int .u8 a0_9, .int .u32 a0_10] 32 (0, 0)) by {rw [hw, setRow_other _ gb331 gb300 _ NB300_331.out]; exact BK300.out}); replace BK331 := Aside0.mk (show w22.heap[gb331]? = some (.cells p.c 25 (0, 0)) by {rw [hw]; exact setRow_heap _ gb331 _ _ 25 (0, 0) BK331.out}); replace HB := Aside0.mk (show Below w.heap.size w w22 by {rw [hw]; exact below_setRow HB.out GE331.out _}); clear hw))
 replace HO303 := Aside0.mk (Kd.R_drew HO303.out)
 replace BK300 := Aside0.mk (blk_drew BK300.out)
 replace BK331 := Aside0.mk (blk_drew BK331.out)
 replace HB := Aside0.mk (below_drew1 HB.out)
 have q24 : ((ji6) : Int) ≤ ((t301.length : Int) : Int) := of_decide_eq_true (by first | (with_reducible assumption) | assumption)
 obtain ⟨i024, hi024, _, hsz24, _⟩ := info_parts info9
 have hroom24 : t301.length ≤ co17 := (Kd.R_reads' HO303.out).2.1
 have hC24 : Kd.C Kd.string _ Ao17 t301.length t301 := (Kd.R_reads' HO303.out).2.2
 have q024 : (0 : Int) ≤ ((ji6) : Int) := of_decide_eq_true (by first | (with_reducible assumption) | assumption)
 have hcut24 := cut_from (P := Tryd.prog) 33 9 .i64 Tryd.underlying33 hi024 1 hsz24 Ao17 t301.length co17 (ji6) q024 q24
 have hr24 := Kd.C_drop (m := ((ji6) : Int).toNat) (c := co17) hC24 (by omega) hroom24
 obtain ⟨A24, hA24⟩ : ∃ A1, A1 = (if co17 = ((ji6) : Int).toNat then Ao17 else (Ao17 : Option Addr).map (·.add (((ji6) : Int).toNat * 1))) := ⟨_, rfl⟩
 obtain ⟨c24, hc24⟩ : ∃ c1, c1 = co17 - ((ji6) : Int).toNat := ⟨_, rfl⟩
 have hy24 : y332.length = t301.length - ((ji6) : Int).toNat := (by rw [Ny332.out, List.length_drop] <;> omega)
 rw [show (t301).drop ((ji6) : Int).toNat = y332 from Ny332.out.symm] at hr24
 replace hr24 : Kd.C Kd.string _ A24 y332.length y332 := (by rw [hA24]; exact hr24)
 rw [← hy24, ← hA24, ← hc24] at hcut24
 have HR335 := Aside0.mk hr24
 have HC335 := Aside0.mk (show y332.length ≤ c24 from by rw [hy24, hc24]; exact Nat.sub_le_sub_right hroom24 _)
 clear hr24 hC24 hroom24 hi024 hsz24 hc24
 have KY24 := Aside0.mk hy24
 have KA24 := Aside0.mk hA24
 clear hy24 hA24
 have KL24 := Aside0.mk (show ((ji6) : Int).toNat ≤ t301.length from by omega)
 replace q24 := eq_true q24
 have q25 : ((ji6) : Int) ≤ ((t301.length : Int) : Int) := of_decide_eq_true (by first | (with_reducible assumption) | assumption)
 obtain ⟨i025, hi025, _, hsz25, _⟩ := info_parts info9
 have hroom25 : t301.length ≤ co17 := (Kd.R_reads' HO303.out).2.1
 have hC25 : Kd.C Kd.string _ Ao17 t301.length t301 := (Kd.R_reads' HO303.out).2.2
 have hcut25 := cut_to (P := Tryd.prog) 33 9 .i64 Tryd.underlying33 hi025 Ao17 t301.length co17 (ji6) (of_decide_eq_true (by first | (with_reducible assumption) | assumption)) q25 hroom25
 have hr25 := Kd.C_take (m := ((ji6) : Int).toNat) hC25 (by omega)
 have hy25 : y339.length = ((ji6) : Int).toNat := (by rw [Ny339.out, List.length_take]; omega)
 rw [← Ny339.out] at hr25
 rw [← hy25] at hcut25
 have HR342 := Aside0.mk hr25
 have HC342 := Aside0.mk (show y339.length ≤ co17 from by omega)
 clear hr25 hC25 hroom25 hi025 hsz25
 have KY25 := Aside0.mk hy25
 clear hy25
 have KL25 := Aside0.mk (show ((ji6) : Int).toNat ≤ t301.length from by omega)
 replace q25 := eq_true q25
 refine start_ (n := 15) (S := fun w' => True) (ds := []) bz_0 (by kernel_rfl) rfl rfl trivial (fun hHeld => ?_); refine with_tabW ord_tab4 ord_bits4 (fun HT_ HW_ => ?_)
 generalize w22.drew = w23 at HO303 BK300 BK331 HB HR335 HR342 hHeld ⊢
 refine pu_ 0 29 (lb_ 15 1) rfl rfl (ao_ HT_) ?_
 refine pu_ 1 30 (lb_ 15 3) rfl rfl (ao_ HT_) ?_
 refine pu_ 2 31 (lb_ 15 7) rfl rfl (ao_ HT_) ?_
 refine pu_ 4 33 (lb_ 15 23) rfl rfl (ao_ HT_) ?_
 refine pu_ 5 34 (lb_ 15 55) rfl rfl (ao_ HT_) ?_
 refine pu_ 6 35 (lb_ 15 119) rfl rfl (ao_ HT_) ?_
 refine join_ (σ := Value × Value × Nat) 2 bz_1 (fun s_ => [(32, s_.1), (36, s_.2.1), (37, .tuple #[.agg p.c, .int .i64 rc]), (9, .pointer (some ⟨s_.2.2, 0, none⟩)), (28, .tuple #[.agg p.c, .int .i64 rc]), (38, .agg p.c), (39, .int .i64 rc)]) (fun s_ w' => (Kd.R Kd.string 9 w' w.heap.size (fun k_ => some k_ ≠ (s_.2.1 : Value).ownBlock) (.slice Ao17 t301.length co17) t301) ∧ (Kd.R Kd.string 9 w' w.heap.size (fun k_ => some k_ ≠ (.slice Ao17 t301.length co17 : Value).ownBlock) s_.2.1 y343) ∧ (w'.heap[gb300]? = some (.cells #[.int .u8 a0_0, .int .u8 a0_1, .int .u8 a0_2, .int .u8 a0_3, .int .u8 a0_4, .int .u8 a0_5, .int .u8 a0_6, .int .u8 a0_7, .int .u8 a0_8, .int .u8 a0_9, .int .u32 a0_10] 32 (0, 0))) ∧ (w'.heap[gb331]? = some (.cells p.c 25 (0, 0))) ∧ (w'.heap[s_.2.2]? = some (.cells zeroPL.c 25 (0, 0))) ∧ (w.heap.size ≤ s_.2.2) ∧ (w.heap.size ≤ s_.2.2) ∧ (gb300 ≠ s_.2.2) ∧ (s_.2.2 ≠ gb300) ∧ (gb331 ≠ s_.2.2) ∧ (s_.2.2 ≠ gb331) ∧ (Below w.heap.size w w')) ?_ ?_
 rotate_left
 ·intro hCont
  refine two_ (i := 3) (j := 12) (Ni := some 32) (Nj := some 9) bz_2 bz_3 rfl rfl rfl rfl (two_of HT_.out (by kernel_rfl)) (by decide) (by decide) (fun K hK => ?_) (fun K hK => ?_)
  ·refine Kd.R_append_rows_step Kd.string (w0 := w) w.heap.size (by rfl) (.const (.slice none 0 0)) (.tmp 31) 33 9 (.string ⟨#[]⟩) 16 rfl Tryd.underlying33 info9 rfl (by decide) (by omega) (.slice none 0 0) ([] : List ByteArray) y332 _ _ _ (fun k_ => some k_ ≠ (.slice Ao17 t301.length co17 : Value).ownBlock) (fun _ => False) rfl rfl ?aO ?aR (fun _ _ h => h) (fun _ h => h.elim) ?aF ?aB ?aS ?aL ?_
   (case aR => repeat (first | exact (by repeat (first | (with_reducible exact HR335.out) | (with_reducible refine Kd.C_alloc ?_ _) | (with_reducible refine Kd.C_drewN ?_ _) | (with_reducible refine Kd.C_drew ?_) | exact HR335.out)) | (with_reducible refine Kd.C_alloc ?_ _) | (with_reducible refine Kd.C_drewN ?_ _) | (with_reducible refine Kd.C_drew ?_)))
   (case aB => exact (bh_ HB))
   (case aF => exact (fun k_ hk => Kd.fresh' (Kd.R_lt (ky_ HO303)) k_ hk))
   (case aO => exact ((Kd.R_nil _ _ _ _ (fun k_ => some k_ ≠ (.slice Ao17 t301.length co17 : Value).ownBlock))))
   (case aS => exact (below_size (bh_ HB)))
   (case aL => have := LMc9.out; omega)
   intro v337 w26 ho hb hg hat
   rw [← Ny336.out] at ho
   replace BK300 := Aside0.mk (blk_grown (g := gb300) (o := .cells #[.int .u8 a0_0, .int .u8 a0_1, .int .u8 a0_2, .int .u8 a0_3, .int .u8 a0_4, .int .u8 a0_5, .int .u8 a0_6, .int .u8 a0_7, .int .u8 a0_8, .int .u8 a0_9, .int .u32 a0_10] 32 (0, 0)) (bq_ BK300) hg (by simp [Value.ownBlock]))
   replace BK331 := Aside0.mk (blk_grown (g := gb331) (o := .cells p.c 25 (0, 0)) (bq_ BK331) hg (by simp [Value.ownBlock]))
   replace HB := Aside0.mk (hb)
   replace HR335 := Aside0.mk ((show Kd.C Kd.string w26 A24 y332.length y332 from by rw [Ny332.out, KA24.out]; exact Kd.C_drop (m := ((ji6) : Int).toNat) (c := co17) ((Kd.R_reads' (Kd.R_after (Kd.R_apart_nil (ky_ HO303)) hg hat)).2.2) KL24.out ((Kd.R_reads' (Kd.R_after (Kd.R_apart_nil (ky_ HO303)) hg hat)).2.1)))
   replace HR342 := Aside0.mk ((show Kd.C Kd.string w26 Ao17 y339.length y339 from by rw [Ny339.out]; exact Kd.C_take (m := ((ji6) : Int).toNat) ((Kd.R_reads' (Kd.R_after (Kd.R_apart_nil (ky_ HO303)) hg hat)).2.2) KL25.out))
   replace HO303 := Aside0.mk (Kd.R_after (Kd.R_apart_nil (ky_ HO303)) hg hat)
   have HO338 := Aside0.mk (ho)
   clear ho hb hg hat
   refine hK.out _ _ trivial (fun hHeld => ?_)
   clear hK K
   refine nm_ 32 ?_
   refine two_ (i := 7) (j := 12) (Ni := some 36) (Nj := some 9) bz_4 bz_5 rfl rfl rfl rfl (two_of HT_.out (by kernel_rfl)) (by decide) (by decide) (fun K hK => ?_) (fun K hK => ?_)
   ·refine Kd.R_append_rows_step Kd.string (w0 := w) w.heap.size (by rfl) (.tmp 32) (.tmp 35) 33 9 (.string ⟨#[]⟩) 16 rfl Tryd.underlying33 info9 rfl (by decide) (by omega) v337 y336 y339 _ _ _ (fun k_ => some k_ ≠ (.slice Ao17 t301.length co17 : Value).ownBlock) (fun _ => False) rfl rfl ?aO ?aR (fun _ _ h => h) (fun _ h => h.elim) ?aF ?aB ?aS ?aL ?_
    (case aR => repeat (first | exact (by repeat (first | (with_reducible exact HR342.out) | (with_reducible refine Kd.C_alloc ?_ _) | (with_reducible refine Kd.C_drewN ?_ _) | (with_reducible refine Kd.C_drew ?_) | exact HR342.out)) | (with_reducible refine Kd.C_alloc ?_ _) | (with_reducible refine Kd.C_drewN ?_ _) | (with_reducible refine Kd.C_drew ?_)))
    (case aB => exact (bh_ HB))
    (case aF => exact (fun k_ hk => Kd.fresh' (Kd.R_lt (ky_ HO303)) k_ hk))
    (case aO => exact (ky_ HO338))
    (case aS => exact (below_size (bh_ HB)))
    (case aL => have := LMc12.out; omega)
    intro v344 w27 ho hb hg hat
    rw [← Ny343.out] at ho
    have n0_ := Aside0.mk (blk_grown (g := gb300) (o := .cells #[.int .u8 a0_0, .int .u8 a0_1, .int .u8 a0_2, .int .u8 a0_3, .int .u8 a0_4, .int .u8 a0_5, .int .u8 a0_6, .int .u8 a0_7, .int .u8 a0_8, .int .u8 a0_9, .int .u32 a0_10] 32 (0, 0)) (bq_ BK300) hg (Kd.R_ne HO338.out BK300.out (by decide)))
    have n1_ := Aside0.mk (Kd.R_after (ok := (fun _ => True)) (ky_ HO303) hg hat)
    have n2_ := Aside0.mk (blk_grown (g := gb331) (o := .cells p.c 25 (0, 0)) (bq_ BK331) hg (Kd.R_ne HO338.out BK331.out (by decide)))
    have n3_ := Aside0.mk (hb)
    have n4_ := Aside0.mk ((show Kd.C Kd.string w27 A24 y332.length y332 from by rw [Ny332.out, KA24.out]; exact Kd.C_drop (m := ((ji6) : Int).toNat) (c := co17) ((Kd.R_reads' (Kd.R_after (ok := (fun _ => True)) (ky_ HO303) hg hat)).2.2) KL24.out ((Kd.R_reads' (Kd.R_after (ok := (fun _ => True)) (ky_ HO303) hg hat)).2.1)))
    have n5_ := Aside0.mk ((show Kd.C Kd.string w27 Ao17 y339.length y339 from by rw [Ny339.out]; exact Kd.C_take (m := ((ji6) : Int).toNat) ((Kd.R_reads' (Kd.R_after (ok := (fun _ => True)) (ky_ HO303) hg hat)).2.2) KL25.out))
    have n6_ := Aside0.mk (ho)
    clear BK300 HO303 BK331 HB HR335 HR342 HO338
    have BK300 := n0_
    have HO303 := n1_
    have BK331 := n2_
    have HB := n3_
    have HR335 := n4_
    have HR342 := n5_
    have HO345 := n6_
    clear n0_ n1_ n2_ n3_ n4_ n5_ n6_ ho hb hg hat
    obtain ⟨Ao28, co28, eo28⟩ := Kd.R_slice HO345.out
    (first | subst eo28 | (injection eo28 with f1_ f2_ f3_; have f4_ := f1_.symm; have f5_ := f3_.symm; clear f1_ f2_ f3_; subst f4_; subst f5_))
    refine hK.out _ _ trivial (fun hHeld => ?_)
    clear hK K
    refine nm_ 36 ?_
    refine two_ (i := 8) (j := 12) (Ni := some 37) (Nj := some 9) bz_6 bz_7 rfl rfl rfl rfl (two_of HT_.out (by kernel_rfl)) (by decide) (by decide) (fun K hK => ?_) (fun K hK => ?_)
    ·refine gq_ Tryd.func6 (by kernel_rfl) rfl #[.slice Ao28 y343.length co28] (by rfl) rfl rfl ?_
     with_reducible refine (parse_walk k _ _ y343 p rc _ ?side1 ?side2 ?tb2_ A13.out).mono ?_
     (case tb2_ => exact tb_ HTAB HB)
     (case side1 => repeat (first | exact (Kd.R_reads' HO345.out).2.2 | (with_reducible refine Kd.C_alloc ?_ _) | (with_reducible refine Kd.C_drewN ?_ _) | (with_reducible refine Kd.C_drew ?_)))
     (case side2 => exact (Kd.R_reads' HO345.out).2.1)
     rintro e w29 ⟨rfl, hb⟩
     refine ⟨_, rfl, ?_⟩
     replace HO303 := Aside0.mk (Kd.R_below (ky_ HO303) hb)
     replace HO345 := Aside0.mk (Kd.R_below (ky_ HO345) hb)
     replace BK300 := bb_ BK300 hb
     replace BK331 := bb_ BK331 hb
     replace HR335 := Aside0.mk (Kd.C_below (by repeat (first | (with_reducible exact HR335.out) | (with_reducible refine Kd.C_alloc ?_ _) | (with_reducible refine Kd.C_drewN ?_ _) | (with_reducible refine Kd.C_drew ?_) | exact HR335.out)) hb)
     replace HR342 := Aside0.mk (Kd.C_below (by repeat (first | (with_reducible exact HR342.out) | (with_reducible refine Kd.C_alloc ?_ _) | (with_reducible refine Kd.C_drewN ?_ _) | (with_reducible refine Kd.C_drew ?_) | exact HR342.out)) hb)
     replace HB := bs_ HB hb
     (try clear hb)
     refine hK.out _ _ trivial (fun hHeld => ?_)
     clear hK K
     refine nm_ 37 ?_
     refine pu_ 9 28 (lb_ 15 1023) rfl rfl (ao_ HT_) ?_
     refine pu_ 10 38 (lb_ 15 2047) rfl rfl (ao_ HT_) ?_
     refine pu_ 11 39 (lb_ 15 4095) rfl rfl (ao_ HT_) ?_
     refine one_ (i := 12) (N := some 9) bz_1 rfl rfl (one_of HT_.out (by kernel_rfl)) (by decide) (fun K hK => ?_)
     refine box_step ?hg (N := 9) ?hd (cs := zeroPL.c) (t := 25) ?hr ?_; (case hd => rfl); (case hg => rfl); (case hr => first | (go_simp; done) | (go_simp; rfl))
     intro gb373 hg w30 hbox hb
     replace HO303 := Aside0.mk (Kd.R_below (ky_ HO303) hb)
     replace HO345 := Aside0.mk (Kd.R_below (ky_ HO345) hb)
     replace HR335 := Aside0.mk (Kd.C_below (by repeat (first | (with_reducible exact HR335.out) | (with_reducible refine Kd.C_alloc ?_ _) | (with_reducible refine Kd.C_drewN ?_ _) | (with_reducible refine Kd.C_drew ?_) | exact HR335.out)) hb)
     replace HR342 := Aside0.mk (Kd.C_below (by repeat (first | (with_reducible exact HR342.out) | (with_reducible refine Kd.C_alloc ?_ _) | (with_reducible refine Kd.C_drewN ?_ _) | (with_reducible refine Kd.C_drew ?_) | exact HR342.out)) hb)
     have BK373 := Aside0.mk hbox
     have GW373 := bg_ HB hg
     have GE373 := bg_ HB hg
     replace HB := bs_ HB hb
     have NB300_373 := bn_ BK300 hg
     have NB373_300 := bm_ BK300 hg
     replace BK300 := bb_ BK300 hb
     have NB331_373 := bn_ BK331 hg
     have NB373_331 := bm_ BK331 hg
     replace BK331 := bb_ BK331 hb
     clear hb hbox hg
     refine hK.out _ _ trivial (fun hHeld => ?_)
     clear hK K
     refine nm_ 9 ?_
     exact norm_ (by simp only [putAll, Act.put, List.setIfInBounds_toArray, List.set_cons_zero, List.set_cons_succ]) (hCont (v337, .slice Ao28 y343.length co28, gb373) _ ⟨(by (with_reducible repeat (first | apply Kd.R_alloc | apply Kd.R_drewN | apply Kd.R_drew)); exact Kd.R_mono HO303.out (fun _ hk => hk.2)), (ky_ HO345), (bq_ BK300), (bq_ BK331), (bq_ BK373), GW373.out, GE373.out, NB300_373.out, NB373_300.out, NB331_373.out, NB373_331.out, (bh_ HB)⟩)
    skip
    refine box_step ?hg (N := 9) ?hd (cs := zeroPL.c) (t := 25) ?hr ?_; (case hd => rfl); (case hg => rfl); (case hr => first | (go_simp; done) | (go_simp; rfl))
    intro gb373 hg w28 hbox hb
    replace HO303 := Aside0.mk (Kd.R_below (ky_ HO303) hb)
    replace HO345 := Aside0.mk (Kd.R_below (ky_ HO345) hb)
    replace HR335 := Aside0.mk (Kd.C_below (by repeat (first | (with_reducible exact HR335.out) | (with_reducible refine Kd.C_alloc ?_ _) | (with_reducible refine Kd.C_drewN ?_ _) | (with_reducible refine Kd.C_drew ?_) | exact HR335.out)) hb)
    replace HR342 := Aside0.mk (Kd.C_below (by repeat (first | (with_reducible exact HR342.out) | (with_reducible refine Kd.C_alloc ?_ _) | (with_reducible refine Kd.C_drewN ?_ _) | (with_reducible refine Kd.C_drew ?_) | exact HR342.out)) hb)
    have BK373 := Aside0.mk hbox
    have GW373 := bg_ HB hg
    have GE373 := bg_ HB hg
    replace HB := bs_ HB hb
    have NB300_373 := bn_ BK300 hg
    have NB373_300 := bm_ BK300 hg
    replace BK300 := bb_ BK300 hb
    have NB331_373 := bn_ BK331 hg
    have NB373_331 := bm_ BK331 hg
    replace BK331 := bb_ BK331 hb
    clear hb hbox hg
    obtain ⟨Ao29, co29, eo29⟩ := Kd.R_slice HO345.out
    (first | subst eo29 | (injection eo29 with f1_ f2_ f3_; have f4_ := f1_.symm; have f5_ := f3_.symm; clear f1_ f2_ f3_; subst f4_; subst f5_))
    refine hK.out _ _ trivial (fun hHeld => ?_)
    clear hK K
    refine nm_ 9 ?_
    refine one_ (i := 8) (N := some 37) bz_8 rfl rfl (one_of HT_.out (by kernel_rfl)) (by decide) (fun K hK => ?_)
    refine gq_ Tryd.func6 (by kernel_rfl) rfl #[.slice Ao29 y343.length co29] (by rfl) rfl rfl ?_
    with_reducible refine (parse_walk k _ _ y343 p rc _ ?side1 ?side2 ?tb4_ A13.out).mono ?_
    (case tb4_ => exact tb_ HTAB HB)
    (case side1 => repeat (first | exact (Kd.R_reads' HO345.out).2.2 | (with_reducible refine Kd.C_alloc ?_ _) | (with_reducible refine Kd.C_drewN ?_ _) | (with_reducible refine Kd.C_drew ?_)))
    (case side2 => exact (Kd.R_reads' HO345.out).2.1)
    rintro e w30 ⟨rfl, hb⟩
    refine ⟨_, rfl, ?_⟩
    replace HO303 := Aside0.mk (Kd.R_below (ky_ HO303) hb)
    replace HO345 := Aside0.mk (Kd.R_below (ky_ HO345) hb)
    replace BK300 := bb_ BK300 hb
    replace BK331 := bb_ BK331 hb
    replace HR335 := Aside0.mk (Kd.C_below (by repeat (first | (with_reducible exact HR335.out) | (with_reducible refine Kd.C_alloc ?_ _) | (with_reducible refine Kd.C_drewN ?_ _) | (with_reducible refine Kd.C_drew ?_) | exact HR335.out)) hb)
    replace HR342 := Aside0.mk (Kd.C_below (by repeat (first | (with_reducible exact HR342.out) | (with_reducible refine Kd.C_alloc ?_ _) | (with_reducible refine Kd.C_drewN ?_ _) | (with_reducible refine Kd.C_drew ?_) | exact HR342.out)) hb)
    replace BK373 := bb_ BK373 hb
    replace HB := bs_ HB hb
    (try clear hb)
    refine hK.out _ _ trivial (fun hHeld => ?_)
    clear hK K
    refine nm_ 37 ?_
    refine pu_ 9 28 (lb_ 15 5119) rfl rfl (ao_ HT_) ?_
    refine pu_ 10 38 (lb_ 15 6143) rfl rfl (ao_ HT_) ?_
    refine pu_ 11 39 (lb_ 15 8191) rfl rfl (ao_ HT_) ?_
    exact norm_ (by simp only [putAll, Act.put, List.setIfInBounds_toArray, List.set_cons_zero, List.set_cons_succ]) (hCont (v337, .slice Ao29 y343.length co29, gb373) _ ⟨(by (with_reducible repeat (first | apply Kd.R_alloc | apply Kd.R_drewN | apply Kd.R_drew)); exact Kd.R_mono HO303.out (fun _ hk => hk.2)), (ky_ HO345), (bq_ BK300), (bq_ BK331), (bq_ BK373), GW373.out, GE373.out, NB300_373.out, NB373_300.out, NB331_373.out, NB373_331.out, (bh_ HB)⟩)
   skip
   refine box_step ?hg (N := 9) ?hd (cs := zeroPL.c) (t := 25) ?hr ?_; (case hd => rfl); (case hg => rfl); (case hr => first | (go_simp; done) | (go_simp; rfl))
   intro gb373 hg w27 hbox hb
   replace HO303 := Aside0.mk (Kd.R_below (ky_ HO303) hb)
   replace HO338 := Aside0.mk (Kd.R_below (ky_ HO338) hb)
   replace HR335 := Aside0.mk (Kd.C_below (by repeat (first | (with_reducible exact HR335.out) | (with_reducible refine Kd.C_alloc ?_ _) | (with_reducible refine Kd.C_drewN ?_ _) | (with_reducible refine Kd.C_drew ?_) | exact HR335.out)) hb)
   replace HR342 := Aside0.mk (Kd.C_below (by repeat (first | (with_reducible exact HR342.out) | (with_reducible refine Kd.C_alloc ?_ _) | (with_reducible refine Kd.C_drewN ?_ _) | (with_reducible refine Kd.C_drew ?_) | exact HR342.out)) hb)
   have BK373 := Aside0.mk hbox
   have GW373 := bg_ HB hg
   have GE373 := bg_ HB hg
   replace HB := bs_ HB hb
   have NB300_373 := bn_ BK300 hg
   have NB373_300 := bm_ BK300 hg
   replace BK300 := bb_ BK300 hb
   have NB331_373 := bn_ BK331 hg
   have NB373_331 := bm_ BK331 hg
   replace BK331 := bb_ BK331 hb
   clear hb hbox hg
   refine hK.out _ _ trivial (fun hHeld => ?_)
   clear hK K
   refine nm_ 9 ?_
   refine one_ (i := 7) (N := some 36) bz_7 rfl rfl (one_of HT_.out (by kernel_rfl)) (by decide) (fun K hK => ?_)
   refine Kd.R_append_rows_step Kd.string (w0 := w) w.heap.size (by rfl) (.tmp 32) (.tmp 35) 33 9 (.string ⟨#[]⟩) 16 rfl Tryd.underlying33 info9 rfl (by decide) (by omega) v337 y336 y339 _ _ _ (fun k_ => some k_ ≠ (.slice Ao17 t301.length co17 : Value).ownBlock) (fun _ => False) rfl rfl ?aO ?aR (fun _ _ h => h) (fun _ h => h.elim) ?aF ?aB ?aS ?aL ?_
   (case aR => repeat (first | exact (by repeat (first | (with_reducible exact HR342.out) | (with_reducible refine Kd.C_alloc ?_ _) | (with_reducible refine Kd.C_drewN ?_ _) | (with_reducible refine Kd.C_drew ?_) | exact HR342.out)) | (with_reducible refine Kd.C_alloc ?_ _) | (with_reducible refine Kd.C_drewN ?_ _) | (with_reducible refine Kd.C_drew ?_)))
   (case aB => exact (bh_ HB))
   (case aF => exact (fun k_ hk => Kd.fresh' (Kd.R_lt (ky_ HO303)) k_ hk))
   (case aO => exact (ky_ HO338))
   (case aS => exact (below_size (bh_ HB)))
   (case aL => have := LMc12.out; omega)
   intro v344 w28 ho hb hg hat
   rw [← Ny343.out] at ho
   have n0_ := Aside0.mk (blk_grown (g := gb300) (o := .cells #[.int .u8 a0_0, .int .u8 a0_1, .int .u8 a0_2, .int .u8 a0_3, .int .u8 a0_4, .int .u8 a0_5, .int .u8 a0_6, .int .u8 a0_7, .int .u8 a0_8, .int .u8 a0_9, .int .u32 a0_10] 32 (0, 0)) (bq_ BK300) hg (Kd.R_ne HO338.out BK300.out (by decide)))
   have n1_ := Aside0.mk (Kd.R_after (ok := (fun _ => True)) (ky_ HO303) hg hat)
   have n2_ := Aside0.mk (blk_grown (g := gb331) (o := .cells p.c 25 (0, 0)) (bq_ BK331) hg (Kd.R_ne HO338.out BK331.out (by decide)))
   have n3_ := Aside0.mk (blk_grown (g := gb373) (o := .cells zeroPL.c 25 (0, 0)) (bq_ BK373) hg (Kd.R_ne HO338.out BK373.out (by decide)))
   have n4_ := Aside0.mk (hb)
   have n5_ := Aside0.mk ((show Kd.C Kd.string w28 A24 y332.length y332 from by rw [Ny332.out, KA24.out]; exact Kd.C_drop (m := ((ji6) : Int).toNat) (c := co17) ((Kd.R_reads' (Kd.R_after (ok := (fun _ => True)) (ky_ HO303) hg hat)).2.2) KL24.out ((Kd.R_reads' (Kd.R_after (ok := (fun _ => True)) (ky_ HO303) hg hat)).2.1)))
   have n6_ := Aside0.mk ((show Kd.C Kd.string w28 Ao17 y339.length y339 from by rw [Ny339.out]; exact Kd.C_take (m := ((ji6) : Int).toNat) ((Kd.R_reads' (Kd.R_after (ok := (fun _ => True)) (ky_ HO303) hg hat)).2.2) KL25.out))
   have n7_ := Aside0.mk (ho)
   clear BK300 HO303 BK331 BK373 HB HR335 HR342 HO338
   have BK300 := n0_
   have HO303 := n1_
   have BK331 := n2_
   have BK373 := n3_
   have HB := n4_
   have HR335 := n5_
   have HR342 := n6_
   have HO345 := n7_
   clear n0_ n1_ n2_ n3_ n4_ n5_ n6_ n7_ ho hb hg hat
   obtain ⟨Ao29, co29, eo29⟩ := Kd.R_slice HO345.out
   (first | subst eo29 | (injection eo29 with f1_ f2_ f3_; have f4_ := f1_.symm; have f5_ := f3_.symm; clear f1_ f2_ f3_; subst f4_; subst f5_))
   refine hK.out _ _ trivial (fun hHeld => ?_)
   clear hK K
   refine nm_ 36 ?_
   refine one_ (i := 8) (N := some 37) bz_8 rfl rfl (one_of HT_.out (by kernel_rfl)) (by decide) (fun K hK => ?_)
   refine gq_ Tryd.func6 (by kernel_rfl) rfl #[.slice Ao29 y343.length co29] (by rfl) rfl rfl ?_
   with_reducible refine (parse_walk k _ _ y343 p rc _ ?side1 ?side2 ?tb6_ A13.out).mono ?_
   (case tb6_ => exact tb_ HTAB HB)
   (case side1 => repeat (first | exact (Kd.R_reads' HO345.out).2.2 | (with_reducible refine Kd.C_alloc ?_ _) | (with_reducible refine Kd.C_drewN ?_ _) | (with_reducible refine Kd.C_drew ?_)))
   (case side2 => exact (Kd.R_reads' HO345.out).2.1)
   rintro e w30 ⟨rfl, hb⟩
   refine ⟨_, rfl, ?_⟩
   replace HO303 := Aside0.mk (Kd.R_below (ky_ HO303) hb)
   replace HO345 := Aside0.mk (Kd.R_below (ky_ HO345) hb)
   replace BK300 := bb_ BK300 hb
   replace BK331 := bb_ BK331 hb
   replace BK373 := bb_ BK373 hb
   replace HR335 := Aside0.mk (Kd.C_below (by repeat (first | (with_reducible exact HR335.out) | (with_reducible refine Kd.C_alloc ?_ _) | (with_reducible refine Kd.C_drewN ?_ _) | (with_reducible refine Kd.C_drew ?_) | exact HR335.out)) hb)
   replace HR342 := Aside0.mk (Kd.C_below (by repeat (first | (with_reducible exact HR342.out) | (with_reducible refine Kd.C_alloc ?_ _) | (with_reducible refine Kd.C_drewN ?_ _) | (with_reducible refine Kd.C_drew ?_) | exact HR342.out)) hb)
   replace HB := bs_ HB hb
   (try clear hb)
   refine hK.out _ _ trivial (fun hHeld => ?_)
   clear hK K
   refine nm_ 37 ?_
   refine pu_ 9 28 (lb_ 15 5119) rfl rfl (ao_ HT_) ?_
   refine pu_ 10 38 (lb_ 15 6143) rfl rfl (ao_ HT_) ?_
   refine pu_ 11 39 (lb_ 15 8191) rfl rfl (ao_ HT_) ?_
   exact norm_ (by simp only [putAll, Act.put, List.setIfInBounds_toArray, List.set_cons_zero, List.set_cons_succ]) (hCont (v337, .slice Ao29 y343.length co29, gb373) _ ⟨(by (with_reducible repeat (first | apply Kd.R_alloc | apply Kd.R_drewN | apply Kd.R_drew)); exact Kd.R_mono HO303.out (fun _ hk => hk.2)), (ky_ HO345), (bq_ BK300), (bq_ BK331), (bq_ BK373), GW373.out, GE373.out, NB300_373.out, NB373_300.out, NB331_373.out, NB373_331.out, (bh_ HB)⟩)
  skip
  refine box_step ?hg (N := 9) ?hd (cs := zeroPL.c) (t := 25) ?hr ?_; (case hd => rfl); (case hg => rfl); (case hr => first | (go_simp; done) | (go_simp; rfl))
  intro gb373 hg w26 hbox hb
  replace HO303 := Aside0.mk (Kd.R_below (ky_ HO303) hb)
  replace HR335 := Aside0.mk (Kd.C_below (by repeat (first | (with_reducible exact HR335.out) | (with_reducible refine Kd.C_alloc ?_ _) | (with_reducible refine Kd.C_drewN ?_ _) | (with_reducible refine Kd.C_drew ?_) | exact HR335.out)) hb)
  replace HR342 := Aside0.mk (Kd.C_below (by repeat (first | (with_reducible exact HR342.out) | (with_reducible refine Kd.C_alloc ?_ _) | (with_reducible refine Kd.C_drewN ?_ _) | (with_reducible refine Kd.C_drew ?_) | exact HR342.out)) hb)
  have BK373 := Aside0.mk hbox
  have GW373 := bg_ HB hg
  have GE373 := bg_ HB hg
  replace HB := bs_ HB hb
  have NB300_373 := bn_ BK300 hg
  have NB373_300 := bm_ BK300 hg
  replace BK300 := bb_ BK300 hb
  have NB331_373 := bn_ BK331 hg
  have NB373_331 := bm_ BK331 hg
  replace BK331 := bb_ BK331 hb
  clear hb hbox hg
  refine hK.out _ _ trivial (fun hHeld => ?_)
  clear hK K
  refine nm_ 9 ?_
  refine one_ (i := 3) (N := some 32) bz_5 rfl rfl (one_of HT_.out (by kernel_rfl)) (by decide) (fun K hK => ?_)
  refine Kd.R_append_rows_step Kd.string (w0 := w) w.heap.size (by rfl) (.const (.slice none 0 0)) (.tmp 31) 33 9 (.string ⟨#[]⟩) 16 rfl Tryd.underlying33 info9 rfl (by decide) (by omega) (.slice none 0 0) ([] : List ByteArray) y332 _ _ _ (fun k_ => some k_ ≠ (.slice Ao17 t301.length co17 : Value).ownBlock) (fun _ => False) rfl rfl ?aO ?aR (fun _ _ h => h) (fun _ h => h.elim) ?aF ?aB ?aS ?aL ?_
  (case aR => repeat (first | exact (by repeat (first | (with_reducible exact HR335.out) | (with_reducible refine Kd.C_alloc ?_ _) | (with_reducible refine Kd.C_drewN ?_ _) | (with_reducible refine Kd.C_drew ?_) | exact HR335.out)) | (with_reducible refine Kd.C_alloc ?_ _) | (with_reducible refine Kd.C_drewN ?_ _) | (with_reducible refine Kd.C_drew ?_)))
  (case aB => exact (bh_ HB))
  (case aF => exact (fun k_ hk => Kd.fresh' (Kd.R_lt (ky_ HO303)) k_ hk))
  (case aO => exact ((Kd.R_nil _ _ _ _ (fun k_ => some k_ ≠ (.slice Ao17 t301.length co17 : Value).ownBlock))))
  (case aS => exact (below_size (bh_ HB)))
  (case aL => have := LMc9.out; omega)
  intro v337 w27 ho hb hg hat
  rw [← Ny336.out] at ho
  replace BK300 := Aside0.mk (blk_grown (g := gb300) (o := .cells #[.int .u8 a0_0, .int .u8 a0_1, .int .u8 a0_2, .int .u8 a0_3, .int .u8 a0_4, .int .u8 a0_5, .int .u8 a0_6, .int .u8 a0_7, .int .u8 a0_8, .int .u8 a0_9, .int .u32 a0_10] 32 (0, 0)) (bq_ BK300) hg (by simp [Value.ownBlock]))
  replace BK331 := Aside0.mk (blk_grown (g := gb331) (o := .cells p.c 25 (0, 0)) (bq_ BK331) hg (by simp [Value.ownBlock]))
  replace BK373 := Aside0.mk (blk_grown (g := gb373) (o := .cells zeroPL.c 25 (0, 0)) (bq_ BK373) hg (by simp [Value.ownBlock]))
  replace HB := Aside0.mk (hb)
  replace HR335 := Aside0.mk ((show Kd.C Kd.string w27 A24 y332.length y332 from by rw [Ny332.out, KA24.out]; exact Kd.C_drop (m := ((ji6) : Int).toNat) (c := co17) ((Kd.R_reads' (Kd.R_after (Kd.R_apart_nil (ky_ HO303)) hg hat)).2.2) KL24.out ((Kd.R_reads' (Kd.R_after (Kd.R_apart_nil (ky_ HO303)) hg hat)).2.1)))
  replace HR342 := Aside0.mk ((show Kd.C Kd.string w27 Ao17 y339.length y339 from by rw [Ny339.out]; exact Kd.C_take (m := ((ji6) : Int).toNat) ((Kd.R_reads' (Kd.R_after (Kd.R_apart_nil (ky_ HO303)) hg hat)).2.2) KL25.out))
  replace HO303 := Aside0.mk (Kd.R_after (Kd.R_apart_nil (ky_ HO303)) hg hat)
  have HO338 := Aside0.mk (ho)
  clear ho hb hg hat
  refine hK.out _ _ trivial (fun hHeld => ?_)
  clear hK K
  refine nm_ 32 ?_
  refine one_ (i := 7) (N := some 36) bz_7 rfl rfl (one_of HT_.out (by kernel_rfl)) (by decide) (fun K hK => ?_)
  refine Kd.R_append_rows_step Kd.string (w0 := w) w.heap.size (by rfl) (.tmp 32) (.tmp 35) 33 9 (.string ⟨#[]⟩) 16 rfl Tryd.underlying33 info9 rfl (by decide) (by omega) v337 y336 y339 _ _ _ (fun k_ => some k_ ≠ (.slice Ao17 t301.length co17 : Value).ownBlock) (fun _ => False) rfl rfl ?aO ?aR (fun _ _ h => h) (fun _ h => h.elim) ?aF ?aB ?aS ?aL ?_
  (case aR => repeat (first | exact (by repeat (first | (with_reducible exact HR342.out) | (with_reducible refine Kd.C_alloc ?_ _) | (with_reducible refine Kd.C_drewN ?_ _) | (with_reducible refine Kd.C_drew ?_) | exact HR342.out)) | (with_reducible refine Kd.C_alloc ?_ _) | (with_reducible refine Kd.C_drewN ?_ _) | (with_reducible refine Kd.C_drew ?_)))
  (case aB => exact (bh_ HB))
  (case aF => exact (fun k_ hk => Kd.fresh' (Kd.R_lt (ky_ HO303)) k_ hk))
  (case aO => exact (ky_ HO338))
  (case aS => exact (below_size (bh_ HB)))
  (case aL => have := LMc12.out; omega)
  intro v344 w28 ho hb hg hat
  rw [← Ny343.out] at ho
  have n0_ := Aside0.mk (blk_grown (g := gb300) (o := .cells #[.int .u8 a0_0, .int .u8 a0_1, .int .u8 a0_2, .int .u8 a0_3, .int .u8 a0_4, .int .u8 a0_5, .int .u8 a0_6, .int .u8 a0_7, .int .u8 a0_8, .int .u8 a0_9, .int .u32 a0_10] 32 (0, 0)) (bq_ BK300) hg (Kd.R_ne HO338.out BK300.out (by decide)))
  have n1_ := Aside0.mk (Kd.R_after (ok := (fun _ => True)) (ky_ HO303) hg hat)
  have n2_ := Aside0.mk (blk_grown (g := gb331) (o := .cells p.c 25 (0, 0)) (bq_ BK331) hg (Kd.R_ne HO338.out BK331.out (by decide)))
  have n3_ := Aside0.mk (blk_grown (g := gb373) (o := .cells zeroPL.c 25 (0, 0)) (bq_ BK373) hg (Kd.R_ne HO338.out BK373.out (by decide)))
  have n4_ := Aside0.mk (hb)
  have n5_ := Aside0.mk ((show Kd.C Kd.string w28 A24 y332.length y332 from by rw [Ny332.out, KA24.out]; exact Kd.C_drop (m := ((ji6) : Int).toNat) (c := co17) ((Kd.R_reads' (Kd.R_after (ok := (fun _ => True)) (ky_ HO303) hg hat)).2.2) KL24.out ((Kd.R_reads' (Kd.R_after (ok := (fun _ => True)) (ky_ HO303) hg hat)).2.1)))
  have n6_ := Aside0.mk ((show Kd.C Kd.string w28 Ao17 y339.length y339 from by rw [Ny339.out]; exact Kd.C_take (m := ((ji6) : Int).toNat) ((Kd.R_reads' (Kd.R_after (ok := (fun _ => True)) (ky_ HO303) hg hat)).2.2) KL25.out))
  have n7_ := Aside0.mk (ho)
  clear BK300 HO303 BK331 BK373 HB HR335 HR342 HO338
  have BK300 := n0_
  have HO303 := n1_
  have BK331 := n2_
  have BK373 := n3_
  have HB := n4_
  have HR335 := n5_
  have HR342 := n6_
  have HO345 := n7_
  clear n0_ n1_ n2_ n3_ n4_ n5_ n6_ n7_ ho hb hg hat
  obtain ⟨Ao29, co29, eo29⟩ := Kd.R_slice HO345.out
  (first | subst eo29 | (injection eo29 with f1_ f2_ f3_; have f4_ := f1_.symm; have f5_ := f3_.symm; clear f1_ f2_ f3_; subst f4_; subst f5_))
  refine hK.out _ _ trivial (fun hHeld => ?_)
  clear hK K
  refine nm_ 36 ?_
  refine one_ (i := 8) (N := some 37) bz_8 rfl rfl (one_of HT_.out (by kernel_rfl)) (by decide) (fun K hK => ?_)
  refine gq_ Tryd.func6 (by kernel_rfl) rfl #[.slice Ao29 y343.length co29] (by rfl) rfl rfl ?_
  with_reducible refine (parse_walk k _ _ y343 p rc _ ?side1 ?side2 ?tb8_ A13.out).mono ?_
  (case tb8_ => exact tb_ HTAB HB)
  (case side1 => repeat (first | exact (Kd.R_reads' HO345.out).2.2 | (with_reducible refine Kd.C_alloc ?_ _) | (with_reducible refine Kd.C_drewN ?_ _) | (with_reducible refine Kd.C_drew ?_)))
  (case side2 => exact (Kd.R_reads' HO345.out).2.1)
  rintro e w30 ⟨rfl, hb⟩
  refine ⟨_, rfl, ?_⟩
  replace HO303 := Aside0.mk (Kd.R_below (ky_ HO303) hb)
  replace HO345 := Aside0.mk (Kd.R_below (ky_ HO345) hb)
  replace BK300 := bb_ BK300 hb
  replace BK331 := bb_ BK331 hb
  replace BK373 := bb_ BK373 hb
  replace HR335 := Aside0.mk (Kd.C_below (by repeat (first | (with_reducible exact HR335.out) | (with_reducible refine Kd.C_alloc ?_ _) | (with_reducible refine Kd.C_drewN ?_ _) | (with_reducible refine Kd.C_drew ?_) | exact HR335.out)) hb)
  replace HR342 := Aside0.mk (Kd.C_below (by repeat (first | (with_reducible exact HR342.out) | (with_reducible refine Kd.C_alloc ?_ _) | (with_reducible refine Kd.C_drewN ?_ _) | (with_reducible refine Kd.C_drew ?_) | exact HR342.out)) hb)
  replace HB := bs_ HB hb
  (try clear hb)
  refine hK.out _ _ trivial (fun hHeld => ?_)
  clear hK K
  refine nm_ 37 ?_
  refine pu_ 9 28 (lb_ 15 5119) rfl rfl (ao_ HT_) ?_
  refine pu_ 10 38 (lb_ 15 6143) rfl rfl (ao_ HT_) ?_
  refine pu_ 11 39 (lb_ 15 8191) rfl rfl (ao_ HT_) ?_
  exact norm_ (by simp only [putAll, Act.put, List.setIfInBounds_toArray, List.set_cons_zero, List.set_cons_succ]) (hCont (v337, .slice Ao29 y343.length co29, gb373) _ ⟨(by (with_reducible repeat (first | apply Kd.R_alloc | apply Kd.R_drewN | apply Kd.R_drew)); exact Kd.R_mono HO303.out (fun _ hk => hk.2)), (ky_ HO345), (bq_ BK300), (bq_ BK331), (bq_ BK373), GW373.out, GE373.out, NB300_373.out, NB373_300.out, NB331_373.out, NB373_331.out, (bh_ HB)⟩)
 rintro ⟨v337, v344, gb373⟩ w31 ⟨h0_, h1_, h2_, h3_, h4_, h5_, h6_, h7_, h8_, h9_, h10_, h11_⟩
 have n0_ : Aside0 (Kd.R Kd.string 9 w31 w.heap.size (fun k_ => some k_ ≠ (v344 : Value).ownBlock) (.slice Ao17 t301.length co17) t301) := ⟨h0_⟩
 have n1_ : Aside0 (Kd.R Kd.string 9 w31 w.heap.size (fun k_ => some k_ ≠ (.slice Ao17 t301.length co17 : Value).ownBlock) v344 y343) := ⟨h1_⟩
 have n2_ : Aside0 (w31.heap[gb300]? = some (.cells #[.int .u8 a0_0, .int .u8 a0_1, .int .u8 a0_2, .int .u8 a0_3, .int .u8 a0_4, .int .u8 a0_5, .int .u8 a0_6, .int .u8 a0_7, .int .u8 a0_8, .int .u8 a0_9, .int .u32 a0_10] 32 (0, 0))) := ⟨h2_⟩
 have n3_ : Aside0 (w31.heap[gb331]? = some (.cells p.c 25 (0, 0))) := ⟨h3_⟩
 have n4_ : Aside0 (w31.heap[gb373]? = some (.cells zeroPL.c 25 (0, 0))) := ⟨h4_⟩
 have n5_ : Aside0 (w.heap.size ≤ gb373) := ⟨h5_⟩
 have n6_ : Aside0 (w.heap.size ≤ gb373) := ⟨h6_⟩
 have n7_ : Aside0 (gb300 ≠ gb373) := ⟨h7_⟩
 have n8_ : Aside0 (gb373 ≠ gb300) := ⟨h8_⟩
 have n9_ : Aside0 (gb331 ≠ gb373) := ⟨h9_⟩
 have n10_ : Aside0 (gb373 ≠ gb331) := ⟨h10_⟩
 have n11_ : Aside0 (Below w.heap.size w w31) := ⟨h11_⟩
 clear HO303 BK300 BK331 HB h0_ h1_ h2_ h3_ h4_ h5_ h6_ h7_ h8_ h9_ h10_ h11_
 have HO303 := n0_
 have HO345 := n1_
 have BK300 := n2_
 have BK331 := n3_
 have BK373 := n4_
 have GW373 := n5_
 have GE373 := n6_
 have NB300_373 := n7_
 have NB373_300 := n8_
 have NB331_373 := n9_
 have NB373_331 := n10_
 have HB := n11_
 clear n0_ n1_ n2_ n3_ n4_ n5_ n6_ n7_ n8_ n9_ n10_ n11_
 have hHeld := trivial
 refine norm_ (a' := ?_) ?_ ?_
 rotate_left
 ·simp only [putAll, Act.put, List.setIfInBounds_toArray, List.set_cons_zero, List.set_cons_succ]
  rfl
 refine one_ (i := 13) (N := none) bz_9 rfl rfl (one_of HT_.out (by kernel_rfl)) (by decide) (fun K hK => ?_)
 refine skip_ (w1 := World.setRow w31 gb373 p.c) (by rfl) rfl (store_ev (tp := 9) (tv := 38) (p := zeroPL) (q := p) rfl rfl rfl BK373.out) ?_
 have h1_ := R_row_ (Kd.R_types HO303.out BK373.out (by decide)) (fun _ hk => hk.2) p.c
 have h2_ : (World.setRow w31 gb373 p.c).heap[gb300]? = some (.cells #[.int .u8 a0_0, .int .u8 a0_1, .int .u8 a0_2, .int .u8 a0_3, .int .u8 a0_4, .int .u8 a0_5, .int .u8 a0_6, .int .u8 a0_7, .int .u8 a0_8, .int .u8 a0_9, .int .u32 a0_10] 32 (0, 0)) := by rw [setRow_other _ gb373 gb300 _ NB300_373.out]; exact BK300.out
 have h3_ : (World.setRow w31 gb373 p.c).heap[gb331]? = some (.cells p.c 25 (0, 0)) := by rw [setRow_other _ gb373 gb331 _ NB331_373.out]; exact BK331.out
 have h4_ := setRow_heap _ gb373 _ p.c 25 (0, 0) BK373.out
 have h5_ := below_setRow HB.out GE373.out p.c
 generalize World.setRow w31 gb373 p.c = w32 at h1_ h2_ h3_ h4_ h5_ ⊢
 clear HO303 HO345 BK300 BK331 BK373 HB
 have HO303 := Aside0.mk h1_
 have BK300 := Aside0.mk h2_
 have BK331 := Aside0.mk h3_
 have BK373 := Aside0.mk h4_
 have HB := Aside0.mk h5_
 clear h1_ h2_ h3_ h4_ h5_
 refine hK.out _ _ trivial (fun hHeld => ?_)
 clear hK K
 refine pu_ 14 10 (lb_ 15 32767) rfl rfl (ao_ HT_) ?_
 refine done_ (done_of HT_.out (by kernel_rfl)) ?_
 try go_wp2
 go_loopg [11, 12, 13] k (fun kq v11 v12 v13 w' => ∃ (x11_1 : List ByteArray) (x12_1 : ByteArray) (x13_1 : Int), v12 = .string x12_1 ∧ v13 = .int .i64 x13_1 ∧ Aside0 (ordL kq t301 x11_1 x12_1 x13_1 = some (mm, cv)) ∧ Aside0 (kq ≤ k) ∧ Aside0 (Kd.R Kd.string 9 w' w.heap.size (fun k_ => some k_ ≠ (v11 : Value).ownBlock) (.slice Ao17 t301.length co17) t301) ∧ Aside0 (Kd.R Kd.string 9 w' w.heap.size (fun k_ => some k_ ≠ ((.slice Ao17 t301.length co17) : Value).ownBlock) v11 x11_1) ∧ Aside0 (w'.heap[gb300]? = some (.cells #[.int .u8 a0_0, .int .u8 a0_1, .int .u8 a0_2, .int .u8 a0_3, .int .u8 a0_4, .int .u8 a0_5, .int .u8 a0_6, .int .u8 a0_7, .int .u8 a0_8, .int .u8 a0_9, .int .u32 a0_10] 32 (0, 0))) ∧ Aside0 (w'.heap[gb331]? = some (.cells p.c 25 (0, 0))) ∧ Aside0 (w'.heap[gb373]? = some (.cells p.c 25 (0, 0))) ∧ Aside0 (Below w.heap.size w w'))
 case atStart => exact ⟨(([] : List ByteArray)), ((⟨#[]⟩ : ByteArray)), (0), (by first | rfl | (simp; done) | (simp [*]; done)), (by first | rfl | (simp; done) | (simp [*]; done)), H', ⟨Nat.le_refl _⟩, ⟨by (with_reducible repeat (first | apply Kd.R_alloc | apply Kd.R_drewN | apply Kd.R_drew)); exact Kd.R_mono HO303.out (fun _ hk => (by simp [Value.ownBlock]))⟩, ⟨by first | exact Kd.R_nil _ _ _ _ _⟩, ⟨bq_ BK300⟩, ⟨bq_ BK331⟩, ⟨bq_ BK373⟩, ⟨bh_ HB⟩⟩
 case round =>
  clear H'
  try clear c1
  try clear p2
  try clear c6
  try clear c9
  try clear c12
  obtain ⟨x11_1, x12_1, x13_1, rfl, rfl, HA, HK1, HO_5, HO_11, BK300, BK331, BK373, HB⟩ := hrel
  cases gk with
  | zero => exact absurd HA.out (by simp [ordL])
  | succ k1 =>
   have H := HA.out
   clear HA
   simp only [ordL] at H
   by_cases c58 : x13_1 < (t301.length : Int)
   ·rw [if_pos c58] at H
    have c58b0 : decide (x13_1 < (t301.length : Int)) = true := decide_eq_true c58
    clear c58
    have HC59 := Aside0.mk H
    clear H
    go_upto_region 10 with (fail)
    go_cut [59] (fun v59 wc => ∃ (kq : Nat) (x59_58 : Bool), v59 = .bool x59_58 ∧ Aside0 (ordJ kq t301 x11_1 x12_1 x13_1 x59_58 = some (mm, cv)) ∧ Aside0 (kq ≤ k1) ∧ Aside0 (Kd.R Kd.string 9 wc w.heap.size (fun k_ => some k_ ≠ (u11 : Value).ownBlock) (.slice Ao17 t301.length co17) t301) ∧ Aside0 (Kd.R Kd.string 9 wc w.heap.size (fun k_ => some k_ ≠ ((.slice Ao17 t301.length co17) : Value).ownBlock) u11 x11_1) ∧ Aside0 (wc.heap[gb300]? = some (.cells #[.int .u8 a0_0, .int .u8 a0_1, .int .u8 a0_2, .int .u8 a0_3, .int .u8 a0_4, .int .u8 a0_5, .int .u8 a0_6, .int .u8 a0_7, .int .u8 a0_8, .int .u8 a0_9, .int .u32 a0_10] 32 (0, 0))) ∧ Aside0 (wc.heap[gb331]? = some (.cells p.c 25 (0, 0))) ∧ Aside0 (wc.heap[gb373]? = some (.cells p.c 25 (0, 0))) ∧ Aside0 (Below w.heap.size w wc))
    case first =>
     have H := HC59.out
     clear HC59
     by_cases c60 : 0 ≤ x13_1
     rotate_left
     ·rw [if_neg c60] at H
      exact absurd H (by simp)
     rw [if_pos c60] at H
     have c60b0 : decide (0 ≤ x13_1) = true := decide_eq_true c60
     clear c60
     (first | rw [c60b0] | (simp only [i64_w, i32_w]; rw [c60b0]) | skip)
     by_cases c61 : ((rdOf ByteArray.empty t301 x13_1).size : Int) > 5
     rotate_left
     ·rw [if_neg c61] at H
      have c61b0 : decide (5 < ((rdOf ByteArray.empty t301 x13_1).size : Int)) = false := decide_eq_false c61
      have c61b1 : decide (5 < (rdOf ByteArray.empty t301 x13_1).size) = false := decide_eq_false (by omega)
      clear c61
      have H' := Aside0.mk H
      clear H
      have p374 : 0 ≤ (x13_1 : Int) := of_decide_eq_true (by first | (with_reducible assumption) | assumption)
      have q374 : x13_1 < (t301.length : Int) := of_decide_eq_true (by first | (with_reducible assumption) | assumption)
      obtain ⟨ad374, e374, hx374_0⟩ := Kd.at_string (Kd.R_reads' HO_5.out).2.2 x13_1 p374 q374
      cases e374
      replace p374 := eq_true p374
      replace q374 := eq_true q374
      go_wp2
      go_meet
      case rel => exact ⟨_, (false), (by first | rfl | (simp; done) | (simp [*]; done)), H', ⟨by have := HK1.out; first | omega | exact Nat.le_refl _⟩, ⟨by (with_reducible repeat (first | apply Kd.R_alloc | apply Kd.R_drewN | apply Kd.R_drew)); exact HO_5.out⟩, ⟨by (with_reducible repeat (first | apply Kd.R_alloc | apply Kd.R_drewN | apply Kd.R_drew)); exact HO_11.out⟩, ⟨bq_ BK300⟩, ⟨bq_ BK331⟩, ⟨bq_ BK373⟩, ⟨bh_ HB⟩⟩
     rw [if_pos c61] at H
     have c61b0 : decide (5 < ((rdOf ByteArray.empty t301 x13_1).size : Int)) = true := decide_eq_true c61
     have c61b1 : decide (5 < (rdOf ByteArray.empty t301 x13_1).size) = true := decide_eq_true (by omega)
     clear c61
     by_cases c62 : 0 ≤ 5
     rotate_left
     ·rw [if_neg c62] at H
      exact absurd H (by simp)
     rw [if_pos c62] at H
     have c62b0 := eq_true c62
     have c62b1 : decide (0 ≤ 5) = true := decide_eq_true c62
     clear c62
     by_cases c63 : 5 ≤ ((rdOf ByteArray.empty t301 x13_1).size : Int)
     rotate_left
     ·rw [if_neg c63] at H
      exact absurd H (by simp)
     rw [if_pos c63] at H
     have c63b0 := eq_true c63
     have c63b1 : decide (5 ≤ ((rdOf ByteArray.empty t301 x13_1).size : Int)) = true := decide_eq_true c63
     clear c63
     have H' := Aside0.mk H
     clear H
     have p374 : 0 ≤ (x13_1 : Int) := of_decide_eq_true (by first | (with_reducible assumption) | assumption)
     have q374 : x13_1 < (t301.length : Int) := of_decide_eq_true (by first | (with_reducible assumption) | assumption)
     obtain ⟨ad374, e374, hx374_0⟩ := Kd.at_string (Kd.R_reads' HO_5.out).2.2 x13_1 p374 q374
     cases e374
     replace p374 := eq_true p374
     replace q374 := eq_true q374
     have p375 : 0 ≤ (x13_1 : Int) := of_decide_eq_true (by first | (with_reducible assumption) | assumption)
     have q375 : x13_1 < (t301.length : Int) := of_decide_eq_true (by first | (with_reducible assumption) | assumption)
     obtain ⟨ad375, e375, hx375_0⟩ := Kd.at_string (Kd.R_reads' HO_5.out).2.2 x13_1 p375 q375
     obtain rfl : ad374 = ad375 := (by injection e375)
     replace p375 := eq_true p375
     replace q375 := eq_true q375
     go_wp2
     go_meet
     case rel => exact ⟨_, ((((rdOf ByteArray.empty t301 x13_1).extract 0 5).toList == ([99, 111, 110, 118, 61] : List UInt8))), (by first | rfl | (simp; done) | (simp [*]; done)), H', ⟨by have := HK1.out; first | omega | exact Nat.le_refl _⟩, ⟨by (with_reducible repeat (first | apply Kd.R_alloc | apply Kd.R_drewN | apply Kd.R_drew)); exact HO_5.out⟩, ⟨by (with_reducible repeat (first | apply Kd.R_alloc | apply Kd.R_drewN | apply Kd.R_drew)); exact HO_11.out⟩, ⟨bq_ BK300⟩, ⟨bq_ BK331⟩, ⟨bq_ BK373⟩, ⟨bh_ HB⟩⟩
    case rest =>
     clear HC59
     try clear c1
     try clear p2
     try clear p3
     try clear q3
     try clear hx3
     try clear c5
     try clear c6
     try clear c9
     try clear c12
     try clear p37
     try clear q37
     try clear hx37
     try clear c58
     try clear c58b0
     try clear c60
     try clear c60b0
     try clear c61
     try clear c61b0
     try clear c61b1
     try clear c62
     try clear c62b0
     try clear c62b1
     try clear c63
     try clear c63b0
     try clear c63b1
     try clear hx374_0
     try clear hx375_0
     try clear p2
     try clear p374
     try clear p375
     try clear q374
     try clear q375
     obtain ⟨kq, x59_58, rfl, HA, HJ58, HO_5, HO_11, BK300, BK331, BK373, HB⟩ := hcut
     cases kq with
     | zero => exact absurd HA.out (by simp [ordJ])
     | succ kj58 =>
      have H := HA.out
      clear HA
      simp only [ordJ] at H
      by_cases c64 : x59_58 = true
      rotate_left
      ·replace c64 := Bool.eq_false_iff.mpr c64
       subst c64
       have H1 : (if 0 ≤ x13_1 then (if x13_1 < (t301.length : Int) then (if x11_1.length < 8796093022208 then (ordL kj58 t301 (x11_1 ++ [rdOf ByteArray.empty t301 x13_1]) x12_1 (wrap64 (x13_1 + 1))) else (none)) else (none)) else (none)) = some (mm, cv) := by rw [if_neg (show ¬ (false = true) by decide)] at H; exact H
       clear H
       have H := H1
       clear H1
       by_cases c75 : 0 ≤ x13_1
       rotate_left
       ·rw [if_neg c75] at H
        exact absurd H (by simp)
       rw [if_pos c75] at H
       have c75b0 : decide (0 ≤ x13_1) = true := decide_eq_true c75
       clear c75
       by_cases c76 : x13_1 < (t301.length : Int)
       rotate_left
       ·rw [if_neg c76] at H
        exact absurd H (by simp)
       rw [if_pos c76] at H
       have c76b0 : decide (x13_1 < (t301.length : Int)) = true := decide_eq_true c76
       clear c76
       by_cases c77 : x11_1.length < 8796093022208
       rotate_left
       ·rw [if_neg c77] at H
        exact absurd H (by simp)
       rw [if_pos c77] at H
       have LMc77 := Aside0.mk c77
       clear c77
       obtain ⟨y379, hy379⟩ : ∃ y_ : List ByteArray, y_ = (x11_1 ++ [rdOf ByteArray.empty t301 x13_1]) := ⟨_, rfl⟩
       replace H : (ordL kj58 t301 y379 x12_1 (wrap64 (x13_1 + 1))) = some (mm, cv) := by first | (rw [hy379]; with_reducible exact H) | (have H2_ := (Option.bind_some _ _).symm.trans H; rw [hy379]; with_reducible exact H2_) | (have H2_ := (Option.bind_some _ _).symm.trans H; with_reducible exact H2_) | with_reducible exact H | (rw [hy379]; exact H) | exact H
       have Ny379 := Aside0.mk hy379
       clear hy379
       have H' := Aside0.mk H
       clear H
       have p378 : 0 ≤ (x13_1 : Int) := of_decide_eq_true (by first | (with_reducible assumption) | assumption)
       have q378 : x13_1 < (t301.length : Int) := of_decide_eq_true (by first | (with_reducible assumption) | assumption)
       obtain ⟨ad378, e378, hx378_0⟩ := Kd.at_string (Kd.R_reads' HO_5.out).2.2 x13_1 p378 q378
       cases e378
       replace p378 := eq_true p378
       replace q378 := eq_true q378
       go_wp2_with (first | ((with_reducible refine gate_builtin (b := .append) (xs := #[.tmp 71, .tmp 76]) rfl ?_); at_builtin; refine Kd.R_append Kd.string (w0 := w) w.heap.size rfl (.tmp 71) (.tmp 76) 33 9 (.string ⟨#[]⟩) 16 rfl Tryd.underlying33 info9 rfl (by decide) (by omega) u11 x11_1 (rdOf ByteArray.empty t301 x13_1) [.string (rdOf ByteArray.empty t301 x13_1)] (fun k_ => some k_ ≠ (.slice (some ad378) t301.length co17 : Value).ownBlock) (fun _ => False) rfl rfl ?aP (fun _ hk => hk.elim) ?aF ?aO ?aB ?aS ?aL ?_; (case aP => exact rfl); (case aB => exact (bh_ HB)); (case aF => exact (fun k_ hk => Kd.fresh' (Kd.R_lt (ky_ HO_5)) k_ hk)); (case aO => exact (ky_ HO_11)); (case aS => exact (below_size (bh_ HB))); (case aL => have := LMc77.out; omega); intro v380 w78 ho hb hg hat; rw [← Ny379.out] at ho; have n0_ := Aside0.mk (Kd.R_after (ok := (fun _ => True)) (by (with_reducible repeat (first | apply Kd.R_alloc | apply Kd.R_drewN | apply Kd.R_drew)); exact Kd.R_mono HO_5.out (fun _ hk => ⟨trivial, hk⟩)) hg hat); have n1_ := Aside0.mk (blk_grown (g := gb300) (o := .cells #[.int .u8 a0_0, .int .u8 a0_1, .int .u8 a0_2, .int .u8 a0_3, .int .u8 a0_4, .int .u8 a0_5, .int .u8 a0_6, .int .u8 a0_7, .int .u8 a0_8, .int .u8 a0_9, .int .u32 a0_10] 32 (0, 0)) (bq_ BK300) hg (Kd.R_ne HO_11.out BK300.out (by decide))); have n2_ := Aside0.mk (blk_grown (g := gb331) (o := .cells p.c 25 (0, 0)) (bq_ BK331) hg (Kd.R_ne HO_11.out BK331.out (by decide))); have n3_ := Aside0.mk (blk_grown (g := gb373) (o := .cells p.c 25 (0, 0)) (bq_ BK373) hg (Kd.R_ne HO_11.out BK373.out (by decide))); have n4_ := Aside0.mk (hb); have n5_ := Aside0.mk (ho); clear HO_5; clear BK300; clear BK331; clear BK373; clear HB; clear HO_11; have HO_5 := n0_; have BK300 := n1_; have BK331 := n2_; have BK373 := n3_; have HB := n4_; have HO381 := n5_; clear n0_ n1_ n2_ n3_ n4_ n5_; clear ho hb hg hat))
       go_roundg kj58
       case measure => have := HK1.out; have := HJ58.out; omega
       case rel => exact ⟨(y379), (x12_1), (wrap64 (x13_1 + 1)), (by first | rfl | (simp; done) | (simp [*]; done)), (by first | rfl | (simp; done) | (simp [*]; done)), H', ⟨by have := HK1.out; have := HJ58.out; omega⟩, ⟨by (with_reducible repeat (first | apply Kd.R_alloc | apply Kd.R_drewN | apply Kd.R_drew)); exact Kd.R_mono HO_5.out (fun _ hk => hk.2)⟩, ⟨by (with_reducible repeat (first | apply Kd.R_alloc | apply Kd.R_drewN | apply Kd.R_drew)); exact HO381.out⟩, ⟨bq_ BK300⟩, ⟨bq_ BK331⟩, ⟨bq_ BK373⟩, ⟨bh_ HB⟩⟩
      subst c64
      have H1 := H; rw [if_pos rfl] at H1
      clear H
      have H := H1
      clear H1
      by_cases c65 : x12_1.toList = ([] : List UInt8)
      ·rw [if_pos c65] at H
       have c65b0 : (x12_1.toList == ([] : List UInt8)) = true := beq_iff_eq.mpr c65
       have c65b1 : (x12_1.toList != ([] : List UInt8)) = false := bne_eq_false_iff_eq.mpr c65
       clear c65
       by_cases c66 : 0 ≤ x13_1
       rotate_left
       ·rw [if_neg c66] at H
        exact absurd H (by simp)
       rw [if_pos c66] at H
       have c66b0 : decide (0 ≤ x13_1) = true := decide_eq_true c66
       clear c66
       by_cases c67 : x13_1 < (t301.length : Int)
       rotate_left
       ·rw [if_neg c67] at H
        exact absurd H (by simp)
       rw [if_pos c67] at H
       have c67b0 : decide (x13_1 < (t301.length : Int)) = true := decide_eq_true c67
       clear c67
       by_cases c68 : 5 ≤ ((rdOf ByteArray.empty t301 x13_1).size : Int)
       rotate_left
       ·rw [if_neg c68] at H
        exact absurd H (by simp)
       rw [if_pos c68] at H
       have c68b0 := eq_true c68
       have c68b1 : decide (5 ≤ ((rdOf ByteArray.empty t301 x13_1).size : Int)) = true := decide_eq_true c68
       clear c68
       by_cases c69 : x12_1.size + ((rdOf ByteArray.empty t301 x13_1).extract 5 (rdOf ByteArray.empty t301 x13_1).size).size ≤ 9223372036854775807
       rotate_left
       ·rw [if_neg c69] at H
        exact absurd H (by simp)
       rw [if_pos c69] at H
       have c69b0 := eq_true c69
       have c69b1 : decide (x12_1.size + ((rdOf ByteArray.empty t301 x13_1).extract 5 (rdOf ByteArray.empty t301 x13_1).size).size ≤ 9223372036854775807) = true := decide_eq_true c69
       try have c69b2 : (9223372036854775807 < x12_1.size + ((rdOf ByteArray.empty t301 x13_1).extract 5 (rdOf ByteArray.empty t301 x13_1).size).size) = False := eq_false (Nat.not_lt.2 c69)
       have H' := Aside0.mk H
       clear H
       have p376 : 0 ≤ (x13_1 : Int) := of_decide_eq_true (by first | (with_reducible assumption) | assumption)
       have q376 : x13_1 < (t301.length : Int) := of_decide_eq_true (by first | (with_reducible assumption) | assumption)
       obtain ⟨ad376, e376, hx376_0⟩ := Kd.at_string (Kd.R_reads' HO_5.out).2.2 x13_1 p376 q376
       cases e376
       replace p376 := eq_true p376
       replace q376 := eq_true q376
       go_wp2
       go_roundg kj58
       case measure => have := HK1.out; have := HJ58.out; omega
       case rel => exact ⟨(x11_1), (x12_1 ++ ((rdOf ByteArray.empty t301 x13_1).extract 5 (rdOf ByteArray.empty t301 x13_1).size)), (wrap64 (x13_1 + 1)), (by first | rfl | (simp; done) | (simp [*]; done)), (by first | rfl | (simp; done) | (simp [*]; done)), H', ⟨by have := HK1.out; have := HJ58.out; omega⟩, ⟨by (with_reducible repeat (first | apply Kd.R_alloc | apply Kd.R_drewN | apply Kd.R_drew)); exact HO_5.out⟩, ⟨by (with_reducible repeat (first | apply Kd.R_alloc | apply Kd.R_drewN | apply Kd.R_drew)); exact HO_11.out⟩, ⟨bq_ BK300⟩, ⟨bq_ BK331⟩, ⟨bq_ BK373⟩, ⟨bh_ HB⟩⟩
      rw [if_neg c65] at H
      have c65b0 : (x12_1.toList == ([] : List UInt8)) = false := beq_eq_false_iff_ne.mpr c65
      have c65b1 : (x12_1.toList != ([] : List UInt8)) = true := bne_iff_ne.mpr c65
      by_cases c70 : x12_1.size + 1 ≤ 9223372036854775807
      rotate_left
      ·rw [if_neg c70] at H
       exact absurd H (by simp)
      rw [if_pos c70] at H
      have c70b0 := eq_true c70
      have c70b1 : decide (x12_1.size + 1 ≤ 9223372036854775807) = true := decide_eq_true c70
      try have c70b2 : (9223372036854775807 < x12_1.size + 1) = False := eq_false (Nat.not_lt.2 c70)
      by_cases c71 : 0 ≤ x13_1
      rotate_left
      ·rw [if_neg c71] at H
       exact absurd H (by simp)
      rw [if_pos c71] at H
      have c71b0 : decide (0 ≤ x13_1) = true := decide_eq_true c71
      clear c71
      by_cases c72 : x13_1 < (t301.length : Int)
      rotate_left
      ·rw [if_neg c72] at H
       exact absurd H (by simp)
      rw [if_pos c72] at H
      have c72b0 : decide (x13_1 < (t301.length : Int)) = true := decide_eq_true c72
      clear c72
      by_cases c73 : 5 ≤ ((rdOf ByteArray.empty t301 x13_1).size : Int)
      rotate_left
      ·rw [if_neg c73] at H
       exact absurd H (by simp)
      rw [if_pos c73] at H
      have c73b0 := eq_true c73
      have c73b1 : decide (5 ≤ ((rdOf ByteArray.empty t301 x13_1).size : Int)) = true := decide_eq_true c73
      clear c73
      by_cases c74 : (x12_1 ++ (⟨#[44]⟩ : ByteArray)).size + ((rdOf ByteArray.empty t301 x13_1).extract 5 (rdOf ByteArray.empty t301 x13_1).size).size ≤ 9223372036854775807
      rotate_left
      ·rw [if_neg c74] at H
       exact absurd H (by simp)
      rw [if_pos c74] at H
      have c74b0 := eq_true c74
      have c74b1 : decide ((x12_1 ++ (⟨#[44]⟩ : ByteArray)).size + ((rdOf ByteArray.empty t301 x13_1).extract 5 (rdOf ByteArray.empty t301 x13_1).size).size ≤ 9223372036854775807) = true := decide_eq_true c74
      try have c74b2 : (9223372036854775807 < (x12_1 ++ (⟨#[44]⟩ : ByteArray)).size + ((rdOf ByteArray.empty t301 x13_1).extract 5 (rdOf ByteArray.empty t301 x13_1).size).size) = False := eq_false (Nat.not_lt.2 c74)
      try have c74b3 : (9223372036854775807 < x12_1.size + 1 + ((rdOf ByteArray.empty t301 x13_1).extract 5 (rdOf ByteArray.empty t301 x13_1).size).size) = False := eq_false (Nat.not_lt.2 (by have h_ := c74; simp only [ByteArray.size_append] at h_; exact h_))
      have H' := Aside0.mk H
      clear H
      have p377 : 0 ≤ (x13_1 : Int) := of_decide_eq_true (by first | (with_reducible assumption) | assumption)
      have q377 : x13_1 < (t301.length : Int) := of_decide_eq_true (by first | (with_reducible assumption) | assumption)
      obtain ⟨ad377, e377, hx377_0⟩ := Kd.at_string (Kd.R_reads' HO_5.out).2.2 x13_1 p377 q377
      cases e377
      replace p377 := eq_true p377
      replace q377 := eq_true q377
      go_wp2
      go_roundg kj58
      case measure => have := HK1.out; have := HJ58.out; omega
      case rel => exact ⟨(x11_1), ((x12_1 ++ (⟨#[44]⟩ : ByteArray)) ++ ((rdOf ByteArray.empty t301 x13_1).extract 5 (rdOf ByteArray.empty t301 x13_1).size)), (wrap64 (x13_1 + 1)), (by first | rfl | (simp; done) | (simp [*]; done)), (by first | rfl | (simp; done) | (simp [*]; done)), H', ⟨by have := HK1.out; have := HJ58.out; omega⟩, ⟨by (with_reducible repeat (first | apply Kd.R_alloc | apply Kd.R_drewN | apply Kd.R_drew)); exact HO_5.out⟩, ⟨by (with_reducible repeat (first | apply Kd.R_alloc | apply Kd.R_drewN | apply Kd.R_drew)); exact HO_11.out⟩, ⟨bq_ BK300⟩, ⟨bq_ BK331⟩, ⟨bq_ BK373⟩, ⟨bh_ HB⟩⟩
   rw [if_neg c58] at H
   have c58b0 : decide (x13_1 < (t301.length : Int)) = false := decide_eq_false c58
   clear c58
   have e1_ := (Prod.mk.inj (Option.some.inj H)).1.symm
   have e2_ := (Prod.mk.inj (Option.some.inj H)).2.symm
   clear H
   subst e1_
   subst e2_
   by_cases c79 : cv.toList = ([] : List UInt8)
   ·have c79b0 : (cv.toList == ([] : List UInt8)) = true := beq_iff_eq.mpr c79
    have c79b1 : (cv.toList != ([] : List UInt8)) = false := bne_eq_false_iff_eq.mpr c79
    have A80 := Aside0.mk (show parseF k mm = some (p, rc) by have h_ := HP3.out; rw [if_pos c79] at h_; exact h_)
    clear c79
    obtain ⟨Ao86, co86, eo86⟩ := Kd.R_slice HO_11.out
    subst eo86
    go_wp2_with (first | ((with_reducible refine gate_callee (f := 6) rfl ?_); refine gl_ (some 89) rfl rfl Tryd.func6 (by kernel_rfl) rfl #[.slice Ao86 mm.length co86] rfl ?_; (with_reducible refine (parse_walk k _ _ mm p rc _ ?side1 ?side2 ?tb10_ A80.out).mono ?_); (case tb10_ => exact tb_ HTAB HB); (case side1 => repeat (first | exact (Kd.R_reads' HO_11.out).2.2 | (with_reducible refine Kd.C_alloc ?_ _) | (with_reducible refine Kd.C_drewN ?_ _) | (with_reducible refine Kd.C_drew ?_))); (case side2 => exact (Kd.R_reads' HO_11.out).2.1); rintro e w87 ⟨rfl, hb⟩; refine ⟨_, rfl, ?_⟩; have n0_ := Aside0.mk (Kd.R_below (ky_ HO_5) hb); have n1_ := Aside0.mk (Kd.R_below (ky_ HO_11) hb); have n2_ := bb_ BK300 hb; have n3_ := bb_ BK331 hb; have n4_ := bb_ BK373 hb; have n5_ := bs_ HB hb; clear HO_5; clear HO_11; clear BK300; clear BK331; clear BK373; clear HB; have HO_5 := n0_; have HO_11 := n1_; have BK300 := n2_; have BK331 := n3_; have BK373 := n4_; have HB := n5_; clear n0_ n1_ n2_ n3_ n4_ n5_; (try clear hb)) | ((with_reducible refine gate_dst (N := 14) rfl ?_); refine box_e 14 zeroPL.c 25 ?_; intro gb409 hg w88 hbox hb; have n0_ := Aside0.mk (Kd.R_below (ky_ HO_5) hb); have n1_ := Aside0.mk (Kd.R_below (ky_ HO_11) hb); have n2_ := bb_ BK300 hb; have n3_ := bb_ BK331 hb; have n4_ := bb_ BK373 hb; have n5_ := bs_ HB hb; have n6_ := Aside0.mk hbox; have n7_ := bg_ HB hg; have n8_ := bg_ HB hg; have n9_ := bn_ BK300 hg; have n10_ := bm_ BK300 hg; have n11_ := bn_ BK331 hg; have n12_ := bm_ BK331 hg; have n13_ := bn_ BK373 hg; have n14_ := bm_ BK373 hg; clear HO_5; clear HO_11; clear BK300; clear BK331; clear BK373; clear HB; have HO_5 := n0_; have HO_11 := n1_; have BK300 := n2_; have BK331 := n3_; have BK373 := n4_; have HB := n5_; have BK409 := n6_; have GW409 := n7_; have GE409 := n8_; have NB300_409 := n9_; have NB409_300 := n10_; have NB331_409 := n11_; have NB409_331 := n12_; have NB373_409 := n13_; have NB409_373 := n14_; clear n0_ n1_ n2_ n3_ n4_ n5_ n6_ n7_ n8_ n9_ n10_ n11_ n12_ n13_ n14_; clear hb hbox hg) | ((with_reducible refine gate_store (t := 25) (p := 14) rfl ?_); refine store_event (t := 25) (p := 14) (v := .tmp 90) (w1 := (World.setRow w88 gb409 p.c)) ?hg4 ?ho4 ?hn4 ?hr4 ?_; (case ho4 => rfl); (case hg4 => rfl); (case hn4 => rfl); (case hr4 => exact store_ev (tp := 14) (tv := 90) (p := zeroPL) (q := p) rfl rfl rfl BK409.out); intro wS hw; replace BK331 := Aside0.mk (show wS.heap[gb331]? = some (.cells p.c 25 (0, 0)) by {rw [hw, setRow_other _ gb409 gb331 _ NB331_409.out]; exact BK331.out}); replace BK373 := Aside0.mk (show wS.heap[gb373]? = some (.cells p.c 25 (0, 0)) by {rw [hw, setRow_other _ gb409 gb373 _ NB373_409.out]; exact BK373.out}); replace BK409 := Aside0.mk (show wS.heap[gb409]? = some (.cells p.c 25 (0, 0)) by {rw [hw]; exact setRow_heap _ gb409 _ _ 25 (0, 0) BK409.out}); replace HB := Aside0.mk (show Below w.heap.size w wS by {rw [hw]; exact below_setRow HB.out GE409.out _}); clear hw) | ((with_reducible refine gate_dst (N := 92) rfl ?_); refine load_event (.agg p.c) (by rfl) (load_ev (tp := 7) (p := p) rfl rfl BK331.out) ?_) | ((with_reducible refine gate_dst (N := 93) rfl ?_); refine load_event (.agg p.c) (by rfl) (load_ev (tp := 9) (p := p) rfl rfl BK373.out) ?_) | ((with_reducible refine gate_dst (N := 101) rfl ?_); refine load_event (.agg p.c) (by rfl) (load_ev (tp := 7) (p := p) rfl rfl BK331.out) ?_) | ((with_reducible refine gate_dst (N := 102) rfl ?_); refine load_event (.agg p.c) (by rfl) (load_ev (tp := 14) (p := p) rfl rfl BK409.out) ?_) | (go_at_call 3; refine (runs_walk _ (HTAB.out.below HB.out)).mono ?_; rintro e wf ⟨rfl, hb⟩; replace HB := bs_ HB hb; clear hb))
    go_ret
    exact ⟨by first | rfl | (simp; done) | (simp [*]; done), bh_ HB⟩
   have c79b0 : (cv.toList == ([] : List UInt8)) = false := beq_eq_false_iff_ne.mpr c79
   have c79b1 : (cv.toList != ([] : List UInt8)) = true := bne_iff_ne.mpr c79
   have c99 : 5 + cv.size ≤ 9223372036854775807 := by have := HCV.out; omega
   have c99b0 := eq_true c99
   have c99b1 : decide (5 + cv.size ≤ 9223372036854775807) = true := decide_eq_true c99
   have c99b2 : (9223372036854775807 < 5 + cv.size) = False := eq_false (Nat.not_lt.2 c99)
   have A1010 : parseF k (mm ++ [(⟨#[99, 111, 110, 118, 61]⟩ : ByteArray) ++ cv, (⟨#[99, 111, 110, 118, 61]⟩ : ByteArray) ++ cv]) = some (p, rc) := by have h_ := HP3.out; rw [if_neg c79] at h_; exact h_
   clear c79
   obtain ⟨y411, hy411⟩ : ∃ y_ : List ByteArray, y_ = (([(⟨#[99, 111, 110, 118, 61]⟩ : ByteArray) ++ cv, (⟨#[99, 111, 110, 118, 61]⟩ : ByteArray) ++ cv] : List ByteArray)) := ⟨_, rfl⟩
   rw [← hy411] at A1010
   have Ny411 := Aside0.mk hy411
   have LMc100 := Aside0.mk (show mm.length + y411.length < 8796093022208 by have := HMM.out; rw [hy411]; simp only [List.length_cons, List.length_nil]; omega)
   clear hy411
   obtain ⟨y414, hy414⟩ : ∃ y_ : List ByteArray, y_ = (mm ++ y411) := ⟨_, rfl⟩
   rw [← hy414] at A1010
   have Ny414 := Aside0.mk hy414
   clear hy414
   have A101 := Aside0.mk A1010
   clear A1010
   go_wp2_with (first | ((with_reducible refine gate_dst (N := 85) rfl ?_); refine Kd.R_lit Kd.string _ 9 ?hg (N := 85) ?hd (xs := ([(⟨#[99, 111, 110, 118, 61]⟩ : ByteArray) ++ cv, (⟨#[99, 111, 110, 118, 61]⟩ : ByteArray) ++ cv] : List ByteArray)) (inner := [.string ((⟨#[99, 111, 110, 118, 61]⟩ : ByteArray) ++ cv), .string ((⟨#[99, 111, 110, 118, 61]⟩ : ByteArray) ++ cv)]) (ok := fun _ => True) (okp := fun _ => True) ?hr ?hp (fun _ hk => hk) trivial (Below.refl _ _) (Nat.le_refl _) (by simp) ?_; (case hd => rfl); (case hg => rfl); (case hr => first | (go_simp; done) | (go_simp; rfl)); (case hp => exact (Reps.one (show Kd.M Kd.string _ _ _ ((⟨#[99, 111, 110, 118, 61]⟩ : ByteArray) ++ cv) [.string ((⟨#[99, 111, 110, 118, 61]⟩ : ByteArray) ++ cv)] from rfl) (Reps.one (show Kd.M Kd.string _ _ _ ((⟨#[99, 111, 110, 118, 61]⟩ : ByteArray) ++ cv) [.string ((⟨#[99, 111, 110, 118, 61]⟩ : ByteArray) ++ cv)] from rfl) (Reps.none _ _)))); intro v412 w107 ho108 hb hg_ hnew_; clear hg_ hnew_; (first | rw [← Ny411.out] at ho108 | (simp only [Int.reduceToNat] at ho108; rw [← Ny411.out] at ho108)); have n0_ := Aside0.mk (Kd.R_elder' (ky_ HO_5) (Kd.R_base ho108) hb); have n1_ := Aside0.mk (Kd.R_elder' (ky_ HO_11) (Kd.R_base ho108) hb); have n2_ := Aside0.mk (Kd.R_lower (Kd.R_new' (Kd.R_new' ho108 (Kd.R_lt (ky_ HO_5))) (Kd.R_lt (ky_ HO_11))) (below_size (bh_ HB))); have n3_ := bb_ BK300 hb; have n4_ := bb_ BK331 hb; have n5_ := bb_ BK373 hb; have n6_ := bs_ HB hb; clear HO_5; clear HO_11; clear BK300; clear BK331; clear BK373; clear HB; have HO_5 := n0_; have HO_11 := n1_; have HO413 := n2_; have BK300 := n3_; have BK331 := n4_; have BK373 := n5_; have HB := n6_; clear n0_ n1_ n2_ n3_ n4_ n5_ n6_; clear hb ho108; obtain ⟨Ao110, co110, eo110⟩ := Kd.R_slice HO413.out; subst eo110) | ((with_reducible refine gate_builtin (b := .append) (xs := #[.tmp 80, .tmp 85]) rfl ?_); at_builtin; refine Kd.R_append_rows Kd.string (w0 := w) w.heap.size rfl (.tmp 80) (.tmp 85) 33 9 (.string ⟨#[]⟩) 16 rfl Tryd.underlying33 info9 rfl (by decide) (by omega) u11 mm y411 _ _ _ (fun k_ => some k_ ≠ (.slice Ao17 t301.length co17 : Value).ownBlock ∧ some k_ ≠ (.slice Ao110 y411.length co110 : Value).ownBlock) (fun _ => False) rfl rfl ?aO ?aR (fun _ _ h => h) (fun _ h => h.elim) ?aF ?aB ?aS ?aL ?_; (case aR => repeat (first | exact (Kd.R_reads' HO413.out).2.2 | (with_reducible refine Kd.C_alloc ?_ _) | (with_reducible refine Kd.C_drewN ?_ _) | (with_reducible refine Kd.C_drew ?_))); (case aB => exact (bh_ HB)); (case aF => exact (fun k_ hk => ⟨Kd.fresh' (Kd.R_lt (ky_ HO_5)) k_ hk, Kd.fresh' (Kd.R_lt (ky_ HO413)) k_ hk⟩)); (case aO => exact (ky_ HO_11)); (case aS => exact (below_size (bh_ HB))); (case aL => have := LMc100.out; omega); intro v415 w109 ho hb hg hat; rw [← Ny414.out] at ho; have n0_ := Aside0.mk (Kd.R_after (ok := (fun k_ => some k_ ≠ (.slice Ao110 y411.length co110 : Value).ownBlock)) (by (with_reducible repeat (first | apply Kd.R_alloc | apply Kd.R_drewN | apply Kd.R_drew)); exact Kd.R_mono HO_5.out (fun _ hk => ⟨hk.2, hk.1⟩)) hg hat); have n1_ := Aside0.mk (blk_grown (g := gb300) (o := .cells #[.int .u8 a0_0, .int .u8 a0_1, .int .u8 a0_2, .int .u8 a0_3, .int .u8 a0_4, .int .u8 a0_5, .int .u8 a0_6, .int .u8 a0_7, .int .u8 a0_8, .int .u8 a0_9, .int .u32 a0_10] 32 (0, 0)) (bq_ BK300) hg (Kd.R_ne HO_11.out BK300.out (by decide))); have n2_ := Aside0.mk (blk_grown (g := gb331) (o := .cells p.c 25 (0, 0)) (bq_ BK331) hg (Kd.R_ne HO_11.out BK331.out (by decide))); have n3_ := Aside0.mk (blk_grown (g := gb373) (o := .cells p.c 25 (0, 0)) (bq_ BK373) hg (Kd.R_ne HO_11.out BK373.out (by decide))); have n4_ := Aside0.mk (Kd.R_after (ok := (fun k_ => some k_ ≠ (.slice Ao17 t301.length co17 : Value).ownBlock)) (by (with_reducible repeat (first | apply Kd.R_alloc | apply Kd.R_drewN | apply Kd.R_drew)); exact Kd.R_mono HO413.out (fun _ hk => ⟨hk.1.2, hk.2⟩)) hg hat); have n5_ := Aside0.mk (hb); have n6_ := Aside0.mk (ho); clear HO_5; clear BK300; clear BK331; clear BK373; clear HO413; clear HB; clear HO_11; have HO_5 := n0_; have BK300 := n1_; have BK331 := n2_; have BK373 := n3_; have HO413 := n4_; have HB := n5_; have HO416 := n6_; clear n0_ n1_ n2_ n3_ n4_ n5_ n6_; clear ho hb hg hat; obtain ⟨Ao111, co111, eo111⟩ := Kd.R_slice HO416.out; subst eo111) | ((with_reducible refine gate_callee (f := 6) rfl ?_); refine gl_ (some 89) rfl rfl Tryd.func6 (by kernel_rfl) rfl #[.slice Ao111 y414.length co111] rfl ?_; (with_reducible refine (parse_walk k _ _ y414 p rc _ ?side1 ?side2 ?tb14_ A101.out).mono ?_); (case tb14_ => exact tb_ HTAB HB); (case side1 => repeat (first | exact (Kd.R_reads' HO416.out).2.2 | (with_reducible refine Kd.C_alloc ?_ _) | (with_reducible refine Kd.C_drewN ?_ _) | (with_reducible refine Kd.C_drew ?_))); (case side2 => exact (Kd.R_reads' HO416.out).2.1); rintro e w112 ⟨rfl, hb⟩; refine ⟨_, rfl, ?_⟩; have n0_ := Aside0.mk (Kd.R_below (ky_ HO_5) hb); have n1_ := Aside0.mk (Kd.R_below (ky_ HO413) hb); have n2_ := Aside0.mk (Kd.R_below (ky_ HO416) hb); have n3_ := bb_ BK300 hb; have n4_ := bb_ BK331 hb; have n5_ := bb_ BK373 hb; have n6_ := bs_ HB hb; clear HO_5; clear HO413; clear HO416; clear BK300; clear BK331; clear BK373; clear HB; have HO_5 := n0_; have HO413 := n1_; have HO416 := n2_; have BK300 := n3_; have BK331 := n4_; have BK373 := n5_; have HB := n6_; clear n0_ n1_ n2_ n3_ n4_ n5_ n6_; (try clear hb)) | ((with_reducible refine gate_dst (N := 14) rfl ?_); refine box_e 14 zeroPL.c 25 ?_; intro gb444 hg w113 hbox hb; have n0_ := Aside0.mk (Kd.R_below (ky_ HO_5) hb); have n1_ := Aside0.mk (Kd.R_below (ky_ HO413) hb); have n2_ := Aside0.mk (Kd.R_below (ky_ HO416) hb); have n3_ := bb_ BK300 hb; have n4_ := bb_ BK331 hb; have n5_ := bb_ BK373 hb; have n6_ := bs_ HB hb; have n7_ := Aside0.mk hbox; have n8_ := bg_ HB hg; have n9_ := bg_ HB hg; have n10_ := bn_ BK300 hg; have n11_ := bm_ BK300 hg; have n12_ := bn_ BK331 hg; have n13_ := bm_ BK331 hg; have n14_ := bn_ BK373 hg; have n15_ := bm_ BK373 hg; clear HO_5; clear HO413; clear HO416; clear BK300; clear BK331; clear BK373; clear HB; have HO_5 := n0_; have HO413 := n1_; have HO416 := n2_; have BK300 := n3_; have BK331 := n4_; have BK373 := n5_; have HB := n6_; have BK444 := n7_; have GW444 := n8_; have GE444 := n9_; have NB300_444 := n10_; have NB444_300 := n11_; have NB331_444 := n12_; have NB444_331 := n13_; have NB373_444 := n14_; have NB444_373 := n15_; clear n0_ n1_ n2_ n3_ n4_ n5_ n6_ n7_ n8_ n9_ n10_ n11_ n12_ n13_ n14_ n15_; clear hb hbox hg) | ((with_reducible refine gate_store (t := 25) (p := 14) rfl ?_); refine store_event (t := 25) (p := 14) (v := .tmp 90) (w1 := (World.setRow w113 gb444 p.c)) ?hg5 ?ho5 ?hn5 ?hr5 ?_; (case ho5 => rfl); (case hg5 => rfl); (case hn5 => rfl); (case hr5 => exact store_ev (tp := 14) (tv := 90) (p := zeroPL) (q := p) rfl rfl rfl BK444.out); intro wS hw; replace BK331 := Aside0.mk (show wS.heap[gb331]? = some (.cells p.c 25 (0, 0)) by {rw [hw, setRow_other _ gb444 gb331 _ NB331_444.out]; exact BK331.out}); replace BK373 := Aside0.mk (show wS.heap[gb373]? = some (.cells p.c 25 (0, 0)) by {rw [hw, setRow_other _ gb444 gb373 _ NB373_444.out]; exact BK373.out}); replace BK444 := Aside0.mk (show wS.heap[gb444]? = some (.cells p.c 25 (0, 0)) by {rw [hw]; exact setRow_heap _ gb444 _ _ 25 (0, 0) BK444.out}); replace HB := Aside0.mk (show Below w.heap.size w wS by {rw [hw]; exact below_setRow HB.out GE444.out _}); clear hw) | ((with_reducible refine gate_dst (N := 92) rfl ?_); refine load_event (.agg p.c) (by rfl) (load_ev (tp := 7) (p := p) rfl rfl BK331.out) ?_) | ((with_reducible refine gate_dst (N := 93) rfl ?_); refine load_event (.agg p.c) (by rfl) (load_ev (tp := 9) (p := p) rfl rfl BK373.out) ?_) | ((with_reducible refine gate_dst (N := 101) rfl ?_); refine load_event (.agg p.c) (by rfl) (load_ev (tp := 7) (p := p) rfl rfl BK331.out) ?_) | ((with_reducible refine gate_dst (N := 102) rfl ?_); refine load_event (.agg p.c) (by rfl) (load_ev (tp := 14) (p := p) rfl rfl BK444.out) ?_) | (go_at_call 3; refine (runs_walk _ (HTAB.out.below HB.out)).mono ?_; rintro e wf ⟨rfl, hb⟩; replace HB := bs_ HB hb; clear hb))
   go_ret
   exact ⟨by first | rfl | (simp; done) | (simp [*]; done), bh_ HB⟩
end Go.Proofs.YtbmhfnncagncmaaDoor.P
