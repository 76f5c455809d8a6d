/- The walks of the taker's methods short and long. No conditions. -/
import Derived.Test.YtlginoicaeonhaaDoorPx0
import Derived.Test.YtlginoicaeonhaaDoorFlD
namespace Go.Proofs.YtlginoicaeonhaaDoor.P
open Go.RowKit Go.Proofs.YtlginoicaeonhaaDoorW.PrintWords Go.Proofs.YtlginoicaeonhaaDoorW.PrintLast
set_option linter.unusedVariables false
set_option linter.unusedSimpArgs false
set_option maxHeartbeats 4000000 in
theorem clos52 (s : ByteArray) (i : Nat) (hi : i < s.size) (B C : Nat) (x : S72) (W : World) (hB : W.cell? ⟨B, 0, none⟩ = some (.string s)) (hC : W.cell? ⟨C, 0, none⟩ = some (.int .i64 i)) : Calls Tryd.prog 52 (#[.agg #[.int .u8 x.f0, .bool x.f1]] ++ #[.pointer (some ⟨B, 0, none⟩), .pointer (some ⟨C, 0, none⟩)]) W fun e w' => e = .returned (.bool (x.f0 == bt s i)) ∧ Below W.heap.size W w' := by
  have hBW : B < W.heap.size := World.block_lt_of_cell? W _ hB
  have hne : B ≠ W.heap.size := by omega
  have hCW : C < W.heap.size := World.block_lt_of_cell? W _ hC
  have hne2 : C ≠ W.heap.size := by omega
  have p0 := eq_true (show (0 : Int) ≤ (i : Int) from by omega)
  have q0 := eq_true (show (i : Int) < (s.size : Int) from by omega)
  have hx0 : ∀ h : i < s.size, ((s[i]'h).toNat : Int) = bt s i := fun h => by simpa using bt_at s (i : Int) (by simpa using h)
  show Calls Tryd.prog 52 #[.agg #[.int .u8 x.f0, .bool x.f1], .pointer (some ⟨B, 0, none⟩), .pointer (some ⟨C, 0, none⟩)] W _
  go_enter Tryd.func52, Tryd.ntmps52
  go_wp2
  go_region
  all_goals go_wp2
  all_goals (go_ret; exact ⟨by simp_all, below_drew (below_alloc (Below.refl _ _) _)⟩)
/-- Letters, side by side, from an index on. -/
def shortT (fl : List S72) (s : ByteArray) : Nat → Nat → List ByteArray → List S31 → Option (List ByteArray × List S31)
  | 0, _, l, o => some (l, o)
  | n + 1, i, l, o =>
    if ¬ 0 ≤ idxF fl (bt s i) then none
    else if (rd_T72 fl (idxF fl (bt s i))).f1 = true then valueT l o (s.extract i (i + 1)) (s.extract (i + 1) s.size)
    else shortT fl s n (i + 1) l (o ++ [⟨s.extract i (i + 1), ⟨#[]⟩⟩])
theorem idxF_lt {l : List S72} {c : Int} (h : 0 ≤ idxF l c) : idxF l c < l.length := by
  unfold idxF at h ⊢
  cases e : l.findIdx? (fun f => f.f0 == c) with
  | none => rw [e] at h; simp at h
  | some i =>
    rw [List.findIdx?_eq_some_iff_getElem] at e
    obtain ⟨hi, _⟩ := e
    simpa using hi
theorem TK.set {w0 W : World} {g : Nat} {fl : List S72} {l : List ByteArray} {o : List S31} {r : List ByteArray} (h : TK w0 W g fl l o r) {gi t : Nat} {cells : Array Value} (hb : W.heap[gi]? = some (.cells cells t (0, 0))) (ht : 55 ≠ t ∧ 72 ≠ t ∧ 31 ≠ t ∧ 9 ≠ t) (hge : w0.heap.size ≤ gi) (j : Nat) (u : Value) : TK w0 (W.setCell ⟨gi, j, none⟩ u) g fl l o r := by
  obtain ⟨Af, cf, Al, cl, vo, vr, hbk, hg, hf, hl, ho, hr, hB⟩ := h
  exact ⟨Af, cf, Al, cl, vo, vr, blk_far hbk (blk_ne hbk hb ht.1) u, hg, Kd.R_set hf hb (by intro q hq; simp [k72, Kd.iso, Kd.pair, Kd.int, Kd.bool, Kd.scalar] at hq; rw [hq]; exact ht.2.1) j u, hl, Kd.R_set ho hb (by intro q hq; simp [k31, Kd.iso, Kd.pair, Kd.string, Kd.scalar] at hq; rw [hq]; exact ht.2.2.1) j u, Kd.R_set hr hb (by intro q hq; simp [Kd.string, Kd.scalar] at hq; rw [hq]; exact ht.2.2.2) j u, below_set hB hge⟩
theorem TK.flags {w0 W : World} {g : Nat} {fl : List S72} {l : List ByteArray} {o : List S31} {r : List ByteArray} (h : TK w0 W g fl l o r) : ∃ Af cf, W.cell? ⟨g, 0, none⟩ = some (.slice Af fl.length cf) ∧ Kd.C k72 W Af fl.length fl ∧ fl.length ≤ cf := by
  obtain ⟨Af, cf, Al, cl, vo, vr, hbk, hg, hf, hl, ho, hr, hB⟩ := h
  exact ⟨Af, cf, (blk_cell hbk 0).trans rfl, (Kd.R_reads' hf).2.2, (Kd.R_reads' hf).2.1⟩
theorem TK.flags2 {w0 W : World} {g : Nat} {fl : List S72} {l : List ByteArray} {o : List S31} {r : List ByteArray} (h : TK w0 W g fl l o r) {kx : Nat} (hk : kx < fl.length) : ∃ g2 cf, W.cell? ⟨g, 0, none⟩ = some (.slice (some ⟨g2, 0, none⟩) fl.length cf) ∧ W.cell? ⟨g2, kx * 2 + 1, none⟩ = some (.bool (rd_T72 fl kx).f1) := by
  obtain ⟨Af, cf, Al, cl, vo, vr, hbk, hg, hf, hl, ho, hr, hB⟩ := h
  obtain ⟨g2, e2, _⟩ := R72_slice hf (by omega)
  subst e2
  exact ⟨g2, cf, (blk_cell hbk 0).trans rfl, (R72_cell hf kx hk).1⟩
def short_T8 : Bool × List (List Nat × List Nat) := (true, [([], []), ([], []), ([], []), ([], []), ([3], [3]), ([1, 2, 4], [1, 2, 4]), ([], []), ([], []), ([7], [7]), ([6, 8], [6, 8]), ([0, 5, 9], [0, 5, 9]), ([10, 10, 0, 1, 2, 3, 4, 5, 6, 7, 8, 9, 10], [10])])
def short_B8 : List Nat := [0, 0, 0, 0, 8, 30, 0, 0, 128, 448, 1023, 2047]
theorem short_tab8 : rtab .any (opsOf Tryd.f42 8) = short_T8 := by kernel_rfl
theorem short_bits8 : waitsOk short_T8.2 short_B8 = true := by kernel_rfl
set_option maxHeartbeats 8000000 in
set_option maxRecDepth 100000 in
theorem short_walk (w0 W : World) (g : Nat) (fl : List S72) (l : List ByteArray) (o : List S31) (r : List ByteArray) (s : ByteArray) (h : TK w0 W g fl l o r) (hs : s.size < 4294967296) (hfl : fl.length < 4294967296) (hlen : o.length + s.size < 1099511627776) :
    Calls Tryd.prog 42 #[.pointer (some ⟨g, 0, none⟩), .string s] W fun e w' => ValueP w0 g fl r e w' (shortT fl s s.size 0 l o) := by
  have HT := Aside0.mk h
  clear h
  have hmf : ∀ (fn : Fn) (first cap : Array Value) (w : World), (Instr.makeFunc fn first cap).run Tryd.prog w = .ok (.func fn first cap) w := fun _ _ _ _ => rfl
  have eg52 : ∀ args w, (callFunc 52 args).run Tryd.prog w = .ok (.enter 52 args) w := enters_of Tryd.func52 (by kernel_rfl) rfl
  have hz : (s.size : Int) < 4294967296 := by omega
  generalize hR0 : shortT fl s s.size 0 l o = R0
  have HR0 := Aside0.mk hR0
  clear hR0
  go_enter Tryd.func42, Tryd.ntmps42
  go_wp2_with (first | ((with_reducible refine gate_dst (N := 3) rfl ?_); refine box_e 3 #[.string s] 9 ?_; intro gs hgs w1 hbox hb; replace HT := Aside0.mk (HT.out.below hb); have BS := Aside0.mk hbox; clear hb hbox hgs; have hcs : w1.cell? ⟨gs, 0, none⟩ = some (.string s) := (blk_cell BS.out 0).trans rfl))
  go_loopg [9] s.size (fun gg v9 wr => ∃ (kk : Nat) (o' : List S31), kk ≤ s.size ∧ s.size - kk ≤ gg ∧ v9 = .int .i64 kk ∧ o'.length + (s.size - kk) < 1099511627776 ∧ Aside0 (shortT fl s (s.size - kk) kk l o' = R0) ∧ Aside0 (TK w0 wr g fl l o' r) ∧ Aside0 (wr.heap[gs]? = some (.cells #[.string s] 9 (0, 0))))
  case atStart => exact ⟨0, o, Nat.zero_le _, by omega, rfl, by omega, HR0, HT, BS⟩
  case round =>
    clear HR0 HT BS hcs hlen
    obtain ⟨kk, o', hkk, hg, rfl, hln, HS, HT, BS⟩ := hrel
    by_cases hlt : kk < s.size
    · have q0 : (kk : Int) < (s.size : Int) := by omega
      have EQ := HS.out
      rw [show s.size - kk = (s.size - (kk + 1)) + 1 from by omega, shortT] at EQ
      by_cases hix : 0 ≤ idxF fl (bt s kk)
      · obtain ⟨kx, hkx⟩ : ∃ kx : Nat, idxF fl (bt s kk) = (kx : Int) := ⟨(idxF fl (bt s kk)).toNat, by omega⟩
        have EIX : kx < fl.length := by have := idxF_lt hix; omega
        rw [if_neg (by simpa using hix), hkx] at EQ
        have p1 := eq_true (show (0 : Int) ≤ (kx : Int) from by omega)
        have p2 := eq_true (show (kx : Int) < (fl.length : Int) from by omega)
        have p7 := eq_false (show ¬ (kx : Int) < 0 from by omega)
        have p3 := eq_true (show (0 : Int) ≤ (kk : Int) from by omega)
        have p4 := eq_true (show (kk : Int) ≤ (kk : Int) + 1 from by omega)
        have p5 := eq_true (show (kk : Int) + 1 ≤ (s.size : Int) from by omega)
        have p6 := eq_true (show (0 : Int) ≤ (kk : Int) + 1 from by omega)
        cases hf1 : (rd_T72 fl kx).f1 with
        | true =>
          rw [if_pos hf1] at EQ
          have hwr : IntKind.i64.wrap ((kk : Int) + 1) = (kk : Int) + 1 := by rw [i64_w]; unfold wrap64; omega
          have hsl : ∀ W : World, (Instr.slice 9 (.string s) (some (.int .i64 (kk : Int))) (some (.int .i64 ((kk : Int) + 1))) none).run Tryd.prog W = .ok (.string (s.extract kk (kk + 1))) W := fun W => by
            rw [run_slice_string (h := Tryd.underlying9)] <;> first | omega | skip
            rw [show ((kk : Int) + 1).toNat = kk + 1 from by omega, Int.toNat_natCast]
          have hsr : ∀ W : World, (Instr.slice 9 (.string s) (some (.int .i64 ((kk : Int) + 1))) none none).run Tryd.prog W = .ok (.string (s.extract (kk + 1) s.size)) W := fun W => by
            rw [run_slice_string_l (ht := Tryd.underlying9) (h0 := by omega) (h1 := by omega), show ((kk : Int) + 1).toNat = kk + 1 from by omega]
          go_wp2_with (first
            | ((with_reducible refine gate_dst (N := 5) rfl ?_); refine box_e 5 #[.int .i64 0] 3 ?_; intro gi hgi w1 hbox hb; have hge : w0.heap.size ≤ gi := (by rw [hgi]; exact below_size HT.out.B); have hT1 := HT.out.below hb; have BS1 := blk_below BS.out hb; have NSI : gs ≠ gi := (by rw [hgi]; exact Nat.ne_of_lt (blk_lt BS.out)); have hT2 := TK.set hT1 hbox (by decide) hge 0 (.int .i64 (kk : Int)); have BS2 := blk_far (p := ⟨gi, 0, none⟩) BS1 NSI (.int .i64 (kk : Int)); have BI2 := blk_put (cs' := #[.int .i64 (kk : Int)]) hbox 0 (.int .i64 (kk : Int)) rfl; have hf0 := blk_frozen hbox 0; have hc0 : w1.cell? ⟨gi, 0, none⟩ = some (.int .i64 0) := (blk_cell hbox 0).trans rfl; replace HT := Aside0.mk hT2; replace BS := Aside0.mk BS2; have BI := Aside0.mk BI2; clear hT1 hT2 BS1 BS2 BI2 hbox hb hgi; obtain ⟨Af, cf, hcF, hCF, hcf⟩ := HT.out.flags)
            | (go_at_call 49; refine (flagIdx 52 #[.pointer (some ⟨gs, 0, none⟩), .pointer (some ⟨gi, 0, none⟩)] (bt s kk) eg52 Af cf fl _ hCF (by omega) ?sh).mono ?_; (case sh => intro W x hb; exact clos52 s kk hlt gs gi x W ((blk_cell (blk_below BS.out hb) 0).trans rfl) ((blk_cell (blk_below BI.out hb) 0).trans rfl)); rintro e w3 ⟨rfl, hb⟩; replace HT := Aside0.mk (HT.out.below hb); replace BS := Aside0.mk (blk_below BS.out hb); replace BI := Aside0.mk (blk_below BI.out hb); clear hcF hCF hc0 hf0 hcf; obtain ⟨g2, cf, hcF, hfv⟩ := HT.out.flags2 EIX; rw [hf1] at hfv; have hcs : w3.cell? ⟨gs, 0, none⟩ = some (.string s) := (blk_cell BS.out 0).trans rfl; have hci : w3.cell? ⟨gi, 0, none⟩ = some (.int .i64 (kk : Int)) := (blk_cell BI.out 0).trans rfl))
          have hval := value_walk w0 w3.drew g fl l o' r (s.extract kk (kk + 1)) (s.extract (kk + 1) s.size) (HT.out.below (below_drew (Below.refl _ _))) (by omega)
          cases hv : valueT l o' (s.extract kk (kk + 1)) (s.extract (kk + 1) s.size) with
          | none =>
            rw [hv] at hval EQ
            subst EQ
            refine start_ (n := 12) (S := fun w' => w'.cell? ⟨gs, 0, none⟩ = some (.string s) ∧ w'.cell? ⟨gi, 0, none⟩ = some (.int .i64 (kk : Int))) (ds := []) #[false, false, false, false, false, false, false, false, false, false, false, false] (by kernel_rfl) rfl rfl ⟨hcs, hci⟩ (fun hHeld => ?_); refine with_tabW short_tab8 short_bits8 (fun HT_ HW_ => ?_)
            replace BS := Aside0.mk (blk_drew BS.out)
            replace BI := Aside0.mk (blk_drew BI.out)
            generalize w3.drew = w4 at hval hHeld BS BI ⊢
            refine pu_ 0 28 (lb_ 12 1) rfl rfl (ao_ HT_) ?_
            refine tk_ 1 29 (lb_ 12 3) rfl rfl (take_ofW HT_.out HW_.out (by kernel_rfl)) hHeld ?_
            refine tk_ 2 30 (lb_ 12 7) rfl rfl (take_ofW HT_.out HW_.out (by kernel_rfl)) hHeld ?_
            refine tk_ 3 31 (lb_ 12 15) rfl rfl (take_ofW HT_.out HW_.out (by kernel_rfl)) hHeld ?_
            refine pu_ 4 32 (lb_ 12 31) rfl rfl (ao_ HT_) ?_
            refine pu_ 5 33 (lb_ 12 63) rfl rfl (ao_ HT_) ?_
            refine tk_ 6 34 (lb_ 12 127) rfl rfl (take_ofW HT_.out HW_.out (by kernel_rfl)) hHeld ?_
            refine tk_ 7 35 (lb_ 12 255) rfl rfl (take_ofW HT_.out HW_.out (by kernel_rfl)) hHeld ?_
            refine pu_ 8 36 (lb_ 12 511) rfl rfl (ao_ HT_) ?_
            refine pu_ 9 37 (lb_ 12 1023) rfl rfl (ao_ HT_) ?_
            refine one_ (i := 10) (N := some 38) #[true, true, true, true, true, true, true, true, true, true, true, false] rfl rfl (one_of HT_.out (by kernel_rfl)) (by decide) (fun K hK => ?_)
            refine gq_ Tryd.func53 (by kernel_rfl) rfl #[.pointer (some ⟨g, 0, none⟩), .string (s.extract kk (kk + 1)), .string (s.extract (kk + 1) s.size)] (by rfl) rfl rfl ?_
            refine hval.mono ?_
            rintro e w5 ⟨⟨rfl, h1⟩, hk1⟩
            refine ⟨_, rfl, ?_⟩
            refine hK.out _ _ ⟨(blk_cell (hk1 gs _ 9 BS.out (by decide) (by decide)) 0).trans rfl, (blk_cell (hk1 gi _ 3 BI.out (by decide) (by decide)) 0).trans rfl⟩ (fun hHeld => ?_)
            clear hK K
            refine nm_ 38 ?_
            refine pu_ 11 4 (lb_ 12 4095) rfl rfl (ao_ HT_) ?_
            refine done_ (done_of HT_.out (by kernel_rfl)) ?_
            try go_wp2
            go_ret
            exact ⟨rfl, h1⟩
          | some x =>
            rw [hv] at hval EQ
            subst EQ
            refine start_ (n := 12) (S := fun w' => w'.cell? ⟨gs, 0, none⟩ = some (.string s) ∧ w'.cell? ⟨gi, 0, none⟩ = some (.int .i64 (kk : Int))) (ds := []) #[false, false, false, false, false, false, false, false, false, false, false, false] (by kernel_rfl) rfl rfl ⟨hcs, hci⟩ (fun hHeld => ?_); refine with_tabW short_tab8 short_bits8 (fun HT_ HW_ => ?_)
            replace BS := Aside0.mk (blk_drew BS.out)
            replace BI := Aside0.mk (blk_drew BI.out)
            generalize w3.drew = w4 at hval hHeld BS BI ⊢
            refine pu_ 0 28 (lb_ 12 1) rfl rfl (ao_ HT_) ?_
            refine tk_ 1 29 (lb_ 12 3) rfl rfl (take_ofW HT_.out HW_.out (by kernel_rfl)) hHeld ?_
            refine tk_ 2 30 (lb_ 12 7) rfl rfl (take_ofW HT_.out HW_.out (by kernel_rfl)) hHeld ?_
            refine tk_ 3 31 (lb_ 12 15) rfl rfl (take_ofW HT_.out HW_.out (by kernel_rfl)) hHeld ?_
            refine pu_ 4 32 (lb_ 12 31) rfl rfl (ao_ HT_) ?_
            refine pu_ 5 33 (lb_ 12 63) rfl rfl (ao_ HT_) ?_
            refine tk_ 6 34 (lb_ 12 127) rfl rfl (take_ofW HT_.out HW_.out (by kernel_rfl)) hHeld ?_
            refine tk_ 7 35 (lb_ 12 255) rfl rfl (take_ofW HT_.out HW_.out (by kernel_rfl)) hHeld ?_
            refine pu_ 8 36 (lb_ 12 511) rfl rfl (ao_ HT_) ?_
            refine pu_ 9 37 (lb_ 12 1023) rfl rfl (ao_ HT_) ?_
            refine one_ (i := 10) (N := some 38) #[true, true, true, true, true, true, true, true, true, true, true, false] rfl rfl (one_of HT_.out (by kernel_rfl)) (by decide) (fun K hK => ?_)
            refine gq_ Tryd.func53 (by kernel_rfl) rfl #[.pointer (some ⟨g, 0, none⟩), .string (s.extract kk (kk + 1)), .string (s.extract (kk + 1) s.size)] (by rfl) rfl rfl ?_
            refine hval.mono ?_
            rintro e w5 ⟨⟨rfl, h1⟩, hk1⟩
            refine ⟨_, rfl, ?_⟩
            refine hK.out _ _ ⟨(blk_cell (hk1 gs _ 9 BS.out (by decide) (by decide)) 0).trans rfl, (blk_cell (hk1 gi _ 3 BI.out (by decide) (by decide)) 0).trans rfl⟩ (fun hHeld => ?_)
            clear hK K
            refine nm_ 38 ?_
            refine pu_ 11 4 (lb_ 12 4095) rfl rfl (ao_ HT_) ?_
            refine done_ (done_of HT_.out (by kernel_rfl)) ?_
            try go_wp2
            go_ret
            exact ⟨rfl, h1⟩
        | false =>
          rw [if_neg (by rw [hf1]; simp)] at EQ
          go_wp2_with (first
            | ((with_reducible refine gate_dst (N := 5) rfl ?_); refine box_e 5 #[.int .i64 0] 3 ?_; intro gi hgi w1 hbox hb; have hge : w0.heap.size ≤ gi := (by rw [hgi]; exact below_size HT.out.B); have hT1 := HT.out.below hb; have BS1 := blk_below BS.out hb; have NSI : gs ≠ gi := (by rw [hgi]; exact Nat.ne_of_lt (blk_lt BS.out)); have hT2 := TK.set hT1 hbox (by decide) hge 0 (.int .i64 (kk : Int)); have BS2 := blk_far (p := ⟨gi, 0, none⟩) BS1 NSI (.int .i64 (kk : Int)); have BI2 := blk_put (cs' := #[.int .i64 (kk : Int)]) hbox 0 (.int .i64 (kk : Int)) rfl; have hf0 := blk_frozen hbox 0; have hc0 : w1.cell? ⟨gi, 0, none⟩ = some (.int .i64 0) := (blk_cell hbox 0).trans rfl; replace HT := Aside0.mk hT2; replace BS := Aside0.mk BS2; have BI := Aside0.mk BI2; clear hT1 hT2 BS1 BS2 BI2 hbox hb hgi; obtain ⟨Af, cf, hcF, hCF, hcf⟩ := HT.out.flags)
            | (go_at_call 49; refine (flagIdx 52 #[.pointer (some ⟨gs, 0, none⟩), .pointer (some ⟨gi, 0, none⟩)] (bt s kk) eg52 Af cf fl _ hCF (by omega) ?sh).mono ?_; (case sh => intro W x hb; exact clos52 s kk hlt gs gi x W ((blk_cell (blk_below BS.out hb) 0).trans rfl) ((blk_cell (blk_below BI.out hb) 0).trans rfl)); rintro e w3 ⟨rfl, hb⟩; replace HT := Aside0.mk (HT.out.below hb); replace BS := Aside0.mk (blk_below BS.out hb); replace BI := Aside0.mk (blk_below BI.out hb); clear hcF hCF hc0 hf0 hcf; obtain ⟨g2, cf, hcF, hfv⟩ := HT.out.flags2 EIX; rw [hf1] at hfv; have hcs : w3.cell? ⟨gs, 0, none⟩ = some (.string s) := (blk_cell BS.out 0).trans rfl; have hci : w3.cell? ⟨gi, 0, none⟩ = some (.int .i64 (kk : Int)) := (blk_cell BI.out 0).trans rfl)
            | (go_at_call 51; ((with_reducible refine (put_walk w0 w3 g fl l o' r (s.extract kk (kk + 1)) ⟨#[]⟩ HT.out (by omega)).mono ?_); rintro e w4 ⟨rfl, h1, hk⟩)))
          go_roundg (s.size - (kk + 1))
          case measure => omega
          case rel => exact ⟨kk + 1, _, by omega, by omega, by go_num, by simp; omega, ⟨EQ⟩, ⟨h1⟩, ⟨hk gs _ 9 BS.out (by decide) (by decide)⟩⟩
      · rw [if_pos hix] at EQ
        subst EQ
        have p1 := eq_true (show idxF fl (bt s kk) < 0 from by omega)
        go_wp2_with (first
          | ((with_reducible refine gate_dst (N := 5) rfl ?_); refine box_e 5 #[.int .i64 0] 3 ?_; intro gi hgi w1 hbox hb; have hge : w0.heap.size ≤ gi := (by rw [hgi]; exact below_size HT.out.B); have hT1 := HT.out.below hb; have BS1 := blk_below BS.out hb; have NSI : gs ≠ gi := (by rw [hgi]; exact Nat.ne_of_lt (blk_lt BS.out)); have hT2 := TK.set hT1 hbox (by decide) hge 0 (.int .i64 (kk : Int)); have BS2 := blk_far (p := ⟨gi, 0, none⟩) BS1 NSI (.int .i64 (kk : Int)); have BI2 := blk_put (cs' := #[.int .i64 (kk : Int)]) hbox 0 (.int .i64 (kk : Int)) rfl; have hf0 := blk_frozen hbox 0; have hc0 : w1.cell? ⟨gi, 0, none⟩ = some (.int .i64 0) := (blk_cell hbox 0).trans rfl; replace HT := Aside0.mk hT2; replace BS := Aside0.mk BS2; have BI := Aside0.mk BI2; clear hT1 hT2 BS1 BS2 BI2 hbox hb hgi; obtain ⟨Af, cf, hcF, hCF, hcf⟩ := HT.out.flags)
          | (go_at_call 49; refine (flagIdx 52 #[.pointer (some ⟨gs, 0, none⟩), .pointer (some ⟨gi, 0, none⟩)] (bt s kk) eg52 Af cf fl _ hCF (by omega) ?sh).mono ?_; (case sh => intro W x hb; exact clos52 s kk hlt gs gi x W ((blk_cell (blk_below BS.out hb) 0).trans rfl) ((blk_cell (blk_below BI.out hb) 0).trans rfl)); rintro e w3 ⟨rfl, hb⟩; replace HT := Aside0.mk (HT.out.below hb); clear hcF hCF hc0 hf0 hcf))
        go_ret
        exact ⟨rfl, HT.out.B⟩
    · have q0 : ¬ (kk : Int) < (s.size : Int) := by omega
      have hk2 : kk = s.size := by omega
      subst hk2
      have EQ := HS.out
      rw [Nat.sub_self, shortT] at EQ
      subst EQ
      go_wp2
      go_ret
      exact ⟨rfl, HT.out⟩
end Go.Proofs.YtlginoicaeonhaaDoor.P
