/- The walk of arg.Flags. No conditions beyond sizes that every law's arguments have. -/
import Derived.Test.YtlginoicaeonhaaDoorPx0
import Derived.Test.YtlginoicaeonhaaDoorFlF
namespace Go.Proofs.YtlginoicaeonhaaDoor.P
open Go.RowKit Go.Proofs.YtlginoicaeonhaaDoorW.PrintWords Go.Proofs.YtlginoicaeonhaaDoorW.PrintLast
set_option linter.unusedVariables false
set_option linter.unusedSimpArgs false
theorem TK.cut {w0 W : World} {g : Nat} {fl : List S72} {s : ByteArray} {l' : List ByteArray} {o : List S31} {r : List ByteArray} (h : TK w0 W g fl (s :: l') o r) : ∃ ad A' cl, W.cell? ⟨g, 1, none⟩ = some (.slice (some ad) (l'.length + 1) cl) ∧ W.frozen? ⟨g, 1, none⟩ = false ∧ W.cell? ad = some (.string s) ∧ (∀ W : World, (Instr.slice 23 (.slice (some ad) (l'.length + 1) cl) (some (.int .i64 1)) none none).run Tryd.prog W = .ok (.slice A' l'.length (cl - 1)) W) ∧ TK w0 (W.setCell ⟨g, 1, none⟩ (.slice A' l'.length (cl - 1))) g fl l' o r := by
  obtain ⟨Af, cf, Al, cl, vo, vr, hbk, hg, hf, ⟨hl, hcl⟩, ho, hr, hB⟩ := h
  have hcl' : l'.length + 1 ≤ cl := hcl
  obtain ⟨A', hcut, hC⟩ := cut1 Al cl s l' hcl
  obtain ⟨ad, eA, hcb⟩ := Kd.at_string (Kd.C_below hl hB) 0 (by omega) (by simp only [List.length_cons]; omega)
  subst eA
  exact ⟨ad, A', cl, (blk_cell hbk 1).trans rfl, blk_frozen hbk 1, hcb, hcut, Af, cf, A', cl - 1, vo, vr, blk_put hbk 1 _ rfl, hg, Kd.R_set hf hbk (by decide) _ _, ⟨hC w0 hl, by omega⟩, Kd.R_set ho hbk (by decide) _ _, Kd.R_set hr hbk (by decide) _ _, below_set hB hg⟩
theorem TK.left {w0 W : World} {g : Nat} {fl : List S72} {l : List ByteArray} {o : List S31} {r : List ByteArray} (h : TK w0 W g fl l o r) : ∃ Al cl, W.cell? ⟨g, 1, none⟩ = some (.slice Al l.length cl) := by
  obtain ⟨Af, cf, Al, cl, vo, vr, hbk, hg, hf, ⟨hl, hcl⟩, ho, hr, hB⟩ := h
  exact ⟨Al, cl, (blk_cell hbk 1).trans rfl⟩
theorem TK.done {w0 W : World} {g : Nat} {fl : List S72} {l : List ByteArray} {o : List S31} {r : List ByteArray} (h : TK w0 W g fl l o r) : ∃ Ao co Ar cr, W.cell? ⟨g, 2, none⟩ = some (.slice Ao o.length co) ∧ W.cell? ⟨g, 3, none⟩ = some (.slice Ar r.length cr) ∧ Kd.R k31 31 W w0.heap.size (fun _ => True) (.slice Ao o.length co) o ∧ Kd.R Kd.string 9 W w0.heap.size (fun _ => True) (.slice Ar r.length cr) r := by
  obtain ⟨Af, cf, Al, cl, vo, vr, hbk, hg, hf, hl, ho, hr, hB⟩ := h
  obtain ⟨Ao, co, e1⟩ := Kd.R_slice ho
  obtain ⟨Ar, cr, e2⟩ := Kd.R_slice hr
  subst e1 e2
  exact ⟨Ao, co, Ar, cr, (blk_cell hbk 2).trans rfl, (blk_cell hbk 3).trans rfl, ho, hr⟩
/-- What is left to be taken, by its bytes. -/
def mu (l : List ByteArray) : Nat := (l.map fun s => s.size + 1).sum
theorem mu_len : ∀ l : List ByteArray, l.length ≤ mu l
  | [] => Nat.le_refl _
  | s :: l => by have := mu_len l; simp only [mu, List.map_cons, List.sum_cons, List.length_cons] at this ⊢; omega
theorem valueT_mu {l : List ByteArray} {o : List S31} {k b : ByteArray} {x : List ByteArray × List S31} (h : valueT l o k b = some x) : x.2.length ≤ o.length + 1 ∧ mu x.1 ≤ mu l ∧ x.1.length ≤ l.length ∧ ∀ s ∈ x.1, s ∈ l := by
  unfold valueT at h
  split at h
  · cases l with
    | nil => cases h
    | cons b l' =>
      obtain rfl := Option.some.inj h
      exact ⟨by simp, by simp [mu], by simp, fun s hs => List.mem_cons_of_mem _ hs⟩
  · obtain rfl := Option.some.inj h
    exact ⟨by simp, Nat.le_refl _, Nat.le_refl _, fun s hs => hs⟩
theorem shortT_mu {fl : List S72} {s : ByteArray} : ∀ {n i : Nat} {l : List ByteArray} {o : List S31} {x : List ByteArray × List S31}, shortT fl s n i l o = some x → x.2.length ≤ o.length + n ∧ mu x.1 ≤ mu l ∧ x.1.length ≤ l.length ∧ ∀ s ∈ x.1, s ∈ l
  | 0, i, l, o, x, h => by
    rw [shortT] at h
    obtain rfl := Option.some.inj h
    exact ⟨by simp, Nat.le_refl _, Nat.le_refl _, fun s hs => hs⟩
  | n + 1, i, l, o, x, h => by
    rw [shortT] at h
    split at h
    · cases h
    · split at h
      · obtain ⟨h1, h2⟩ := valueT_mu h
        exact ⟨by omega, h2⟩
      · obtain ⟨h1, h2⟩ := shortT_mu h
        refine ⟨?_, h2⟩
        rw [List.length_append, List.length_singleton] at h1
        omega
theorem oneT_mu {fl : List S72} {l : List ByteArray} {o : List S31} {r : List ByteArray} {s : ByteArray} {x : List ByteArray × List S31 × List ByteArray} (h : oneT fl l o r s = some x) : x.2.1.length + x.2.2.length ≤ o.length + r.length + s.size + 1 ∧ mu x.1 ≤ mu l ∧ x.1.length ≤ l.length ∧ ∀ s ∈ x.1, s ∈ l := by
  unfold oneT at h
  split at h
  · obtain ⟨y, hy, rfl⟩ := Option.map_eq_some_iff.1 h
    unfold longT at hy
    split at hy
    · obtain rfl := Option.some.inj hy
      exact ⟨by simp; omega, Nat.le_refl _, Nat.le_refl _, fun s hs => hs⟩
    · cases hy
  · split at h
    · obtain ⟨y, hy, rfl⟩ := Option.map_eq_some_iff.1 h
      obtain ⟨h1, h2⟩ := shortT_mu hy
      have := trim_size s [45]
      have h3 : (pre1 s).size ≤ s.size := this
      exact ⟨by simp only; omega, h2⟩
    · obtain rfl := Option.some.inj h
      exact ⟨by simp; omega, Nat.le_refl _, Nat.le_refl _, fun s hs => hs⟩
/-- All arguments. -/
def runT (fl : List S72) : Nat → List ByteArray → List S31 → List ByteArray → Option (List S31 × List ByteArray)
  | 0, _, o, r => some (o, r)
  | _ + 1, [], o, r => some (o, r)
  | n + 1, s :: l, o, r => if s.toList = [45, 45] then some (o, r ++ l) else match oneT fl l o r s with
    | none => none
    | some x => runT fl n x.1 x.2.1 x.2.2
def flagsF (a0 : ByteArray) (l1 : List ByteArray) : Option (List S31 × List ByteArray × Bool) :=
  if a0.size < 4294967296 ∧ (∀ s ∈ l1, s.size < 4294967281) ∧ mu l1 < 1099511627776 then
    match specL (bytesOf a0 0) [] with
    | none => some ([], [], false)
    | some fl => if l1.length > 40 then some ([], [], false) else match runT fl (l1.length + 1) l1 [] [] with
      | none => some ([], [], false)
      | some x => some (x.1, x.2, true)
  else none
def flags_T9 : Bool × List (List Nat × List Nat) := (true, [([], []), ([], []), ([1], [1]), ([2], [2]), ([3], [3]), ([4], [4]), ([], []), ([6], [6]), ([7], [7]), ([8], [8]), ([5, 9], [5, 9]), ([0, 0, 1, 2, 3, 4, 5, 6, 7, 8, 9, 10], [0]), ([11, 0, 1, 2, 3, 4, 5, 6, 7, 8, 9, 10], [11]), ([12, 0, 1, 2, 3, 4, 5, 6, 7, 8, 9, 10], [12]), ([13, 10, 10, 0, 1, 2, 3, 4, 5, 6, 7, 8, 9, 10], [10, 13])])
def flags_B9 : List Nat := [0, 0, 2, 6, 14, 30, 0, 64, 192, 448, 1022, 2047, 4095, 8191, 16383]
theorem flags_tab9 : rtab .any (opsOf Tryd.f10 9) = flags_T9 := by kernel_rfl
theorem flags_bits9 : waitsOk flags_T9.2 flags_B9 = true := by kernel_rfl
theorem spec_some (a0 : ByteArray) (w : World) (hsz : a0.size < 4294967296) {fl : List S72} (h : specL (bytesOf a0 0) [] = some fl) : Calls Tryd.prog 23 #[.string a0] w fun e w' => ∃ v, e = .returned (.tuple #[v, .bool true]) ∧ fl.length ≤ a0.size ∧ Kd.R k72 72 w' w.heap.size (fun _ => True) v fl ∧ Below w.heap.size w w' := by
  refine (specF_walk a0 w hsz).mono ?_
  rintro e w' (⟨l, v, e1, hl, rfl, hR, hB⟩ | ⟨e1, _⟩)
  · rw [h] at e1
    obtain rfl := Option.some.inj e1
    exact ⟨v, rfl, hl, hR, hB⟩
  · rw [h] at e1; cases e1
theorem spec_none (a0 : ByteArray) (w : World) (hsz : a0.size < 4294967296) (h : specL (bytesOf a0 0) [] = none) : Calls Tryd.prog 23 #[.string a0] w fun e w' => ∃ v, e = .returned (.tuple #[v, .bool false]) ∧ Below w.heap.size w w' := by
  refine (specF_walk a0 w hsz).mono ?_
  rintro e w' (⟨l, v, e1, _⟩ | ⟨e1, h2⟩)
  · rw [h] at e1; cases e1
  · exact h2
set_option maxHeartbeats 8000000 in
set_option maxRecDepth 100000 in
theorem flags_walk (a0 : ByteArray) (A1 : Option Addr) (c1 : Nat) (l1 : List ByteArray) (r1 : List S31) (r2 : List ByteArray) (r3 : Bool) (w : World) (hr1 : Kd.C Kd.string w A1 l1.length l1) (hc1 : l1.length ≤ c1) (h : flagsF a0 l1 = some (r1, r2, r3)) (htab : TabAt w) :
    Calls Tryd.prog 10 #[.string a0, .slice A1 l1.length c1] w fun e w' => ∃ v0_ v1_ : Value, e = .returned (.tuple #[.agg #[v0_, v1_], .bool r3]) ∧ Kd.R k31 31 w' w.heap.size (fun _ => True) v0_ r1 ∧ Kd.R Kd.string 9 w' w.heap.size (fun _ => True) v1_ r2 ∧ Below w.heap.size w w' := by
  unfold flagsF at h
  split at h
  case isFalse => cases h
  case isTrue hg =>
  obtain ⟨g1, g2, g3⟩ := hg
  have HTAB := Aside0.mk htab
  have HR1 := Aside0.mk hr1
  have HC1 := Aside0.mk hc1
  have HB := Aside0.mk (Below.refl w.heap.size w)
  clear htab hr1 hc1
  cases hsp : specL (bytesOf a0 0) [] with
  | none =>
    rw [hsp] at h
    simp only [Option.some.injEq, Prod.mk.injEq] at h
    obtain ⟨rfl, rfl, rfl⟩ := h
    go_enter Tryd.func10, Tryd.ntmps10
    go_wp2_with (first
      | ((with_reducible refine gate_dst (N := 4) rfl ?_); refine box_e 4 #[.slice none 0 0, .slice none 0 0] 25 ?_; intro gr hgr w1 hbox hb; have hge : w.heap.size ≤ gr := Nat.le_of_eq hgr.symm; have BR := Aside0.mk hbox; replace HB := bs_ HB hb; clear hbox hb hgr)
      | (go_at_call 23; refine (spec_none a0 _ g1 hsp).mono ?_; rintro e w2 ⟨v, rfl, hb⟩; replace BR := Aside0.mk (blk_below BR.out hb); replace HB := bs_ HB hb; clear hb; have hc0 : w2.cell? ⟨gr, 0, none⟩ = some (.slice none 0 0) := (blk_cell BR.out 0).trans rfl; have hc1 : w2.cell? ⟨gr, 1, none⟩ = some (.slice none 0 0) := (blk_cell BR.out 1).trans rfl; have hf0 := blk_frozen BR.out 0; have hf1 := blk_frozen BR.out 1))
    refine bodyPost_ret (results_ct rfl _ _ gr 25 #[.slice none 0 0, .slice none 0 0] (0, 0) _ rfl (blk_put (blk_put BR.out 0 _ rfl) 1 _ rfl) Tryd.underlying25 rfl (by kernel_rfl)) rfl ?_
    exact ⟨_, _, rfl, Kd.R_nil _ _ _ _ _, Kd.R_nil _ _ _ _ _, below_set (below_set HB.out hge) hge⟩
  | some fl =>
    rw [hsp] at h
    simp only at h
    by_cases h40 : l1.length > 40
    · rw [if_pos h40] at h
      simp only [Option.some.injEq, Prod.mk.injEq] at h
      obtain ⟨rfl, rfl, rfl⟩ := h
      have p1 := eq_true (show (40 : Int) < (l1.length : Int) from by omega)
      go_enter Tryd.func10, Tryd.ntmps10
      go_wp2_with (first
        | ((with_reducible refine gate_dst (N := 4) rfl ?_); refine box_e 4 #[.slice none 0 0, .slice none 0 0] 25 ?_; intro gr hgr w1 hbox hb; have hge : w.heap.size ≤ gr := Nat.le_of_eq hgr.symm; have BR := Aside0.mk hbox; replace HB := bs_ HB hb; clear hbox hb hgr)
        | (go_at_call 23; refine (spec_some a0 _ g1 hsp).mono ?_; rintro e w2 ⟨v, rfl, hfl, hF, hb⟩; replace BR := Aside0.mk (blk_below BR.out hb); replace HB := bs_ HB hb; have HF := Aside0.mk hF; clear hb hF; have hc0 : w2.cell? ⟨gr, 0, none⟩ = some (.slice none 0 0) := (blk_cell BR.out 0).trans rfl; have hc1 : w2.cell? ⟨gr, 1, none⟩ = some (.slice none 0 0) := (blk_cell BR.out 1).trans rfl; have hf0 := blk_frozen BR.out 0; have hf1 := blk_frozen BR.out 1))
      refine bodyPost_ret (results_ct rfl _ _ gr 25 #[.slice none 0 0, .slice none 0 0] (0, 0) _ rfl (blk_put (blk_put BR.out 0 _ rfl) 1 _ rfl) Tryd.underlying25 rfl (by kernel_rfl)) rfl ?_
      exact ⟨_, _, rfl, Kd.R_nil _ _ _ _ _, Kd.R_nil _ _ _ _ _, below_set (below_set HB.out hge) hge⟩
    · rw [if_neg h40] at h
      have p1 := eq_false (show ¬ (40 : Int) < (l1.length : Int) from by omega)
      generalize hR0 : runT fl (l1.length + 1) l1 [] [] = R0 at h
      have HR0 := Aside0.mk hR0
      clear hR0
      go_enter Tryd.func10, Tryd.ntmps10
      go_wp2_with (first
        | ((with_reducible refine gate_dst (N := 4) rfl ?_); refine box_e 4 #[.slice none 0 0, .slice none 0 0] 25 ?_; intro gr hgr w1 hbox hb; have hge : w.heap.size ≤ gr := Nat.le_of_eq hgr.symm; have BR := Aside0.mk hbox; replace HB := bs_ HB hb; clear hbox hb hgr)
        | (go_at_call 23; refine (spec_some a0 _ g1 hsp).mono ?_; rintro e w2 ⟨v, rfl, hfl, hF, hb⟩; replace BR := Aside0.mk (blk_below BR.out hb); replace HB := bs_ HB hb; obtain ⟨Af, cf, eF⟩ := Kd.R_slice hF; subst eF; have HF := Aside0.mk hF; clear hb hF)
        | ((with_reducible refine gate_dst (N := 26) rfl ?_); refine box_e 26 #[.slice Af fl.length cf, .slice A1 l1.length c1, .slice none 0 0, .slice none 0 0] 55 ?_; intro g hgg w3 hbox hb; have hT : TK w2 w3 g fl l1 [] [] := ⟨Af, cf, A1, c1, _, _, hbox, Nat.le_of_eq hgg.symm, Kd.R_lower (Kd.R_below HF.out hb) (Nat.zero_le _), ⟨Kd.C_below HR1.out HB.out, HC1.out⟩, Kd.R_nil _ _ _ _ _, Kd.R_nil _ _ _ _ _, hb⟩; have HT := Aside0.mk hT; clear hT hbox hb hgg HF))
      have HTAB2 := Aside0.mk (HTAB.out.below HB.out)
      go_loopg [9] (l1.length + 1) (fun gg v9 wr => ∃ (l : List ByteArray) (o : List S31) (r : List ByteArray), l.length < gg ∧ Aside0 (∀ s ∈ l, s.size < 4294967281) ∧ Aside0 (o.length + r.length + mu l < 1099511627776) ∧ Aside0 (runT fl gg l o r = R0) ∧ Aside0 (TK w2 wr g fl l o r))
      case atStart => exact ⟨l1, [], [], by omega, ⟨g2⟩, ⟨by simpa using g3⟩, HR0, HT⟩
      case round =>
        clear HR0 HT
        obtain ⟨l, o, r, hlen, HS, HM, HR0, HT⟩ := hrel
        cases gk with
        | zero => exact absurd hlen (by omega)
        | succ gk =>
        have EQ := HR0.out
        cases l with
        | nil =>
          rw [runT] at EQ
          subst EQ
          simp only [Option.some.injEq, Prod.mk.injEq] at h
          obtain ⟨rfl, rfl, rfl⟩ := h
          obtain ⟨Al, cl, hcl⟩ := HT.out.left
          obtain ⟨Ao, co, Ar, cr, hc2, hc3, hO, hR⟩ := HT.out.done
          have BRw := blk_below BR.out HT.out.B
          have HBw := below_step HB.out HT.out.B
          have hr0 : wr.cell? ⟨gr, 0, none⟩ = some (.slice none 0 0) := (blk_cell BRw 0).trans rfl
          have hr1 : wr.cell? ⟨gr, 1, none⟩ = some (.slice none 0 0) := (blk_cell BRw 1).trans rfl
          have hf0 := blk_frozen BRw 0
          have hf1 := blk_frozen BRw 1
          go_wp2
          refine bodyPost_ret (results_ct rfl _ _ gr 25 #[.slice Ao o.length co, .slice Ar r.length cr] (0, 0) _ rfl (blk_put (blk_put BRw 0 _ rfl) 1 _ rfl) Tryd.underlying25 rfl (by kernel_rfl)) rfl ?_
          exact ⟨_, _, rfl, Kd.R_lower (Kd.R_set (Kd.R_set hO BRw (by decide) _ _) (blk_put BRw 0 _ rfl) (by decide) _ _) (below_size HB.out), Kd.R_lower (Kd.R_set (Kd.R_set hR BRw (by decide) _ _) (blk_put BRw 0 _ rfl) (by decide) _ _) (below_size HB.out), below_set (below_set HBw hge) hge⟩
        | cons s l' =>
          rw [runT] at EQ
          have hms : mu (s :: l') = s.size + 1 + mu l' := by simp [mu]
          have hmo : o.length + s.size < 1099511627776 := by have := HM.out; omega
          have hmr : r.length < 1099511627776 := by have := HM.out; omega
          obtain ⟨ad, A', cl, hc1, hf1, hcb, hcut, hT2⟩ := HT.out.cut
          have hgp := eq_true (show (0 : Int) < (l'.length : Int) + 1 from by omega)
          by_cases hdd : s.toList = [45, 45]
          · rw [if_pos hdd] at EQ
            subst EQ
            simp only [Option.some.injEq, Prod.mk.injEq] at h
            obtain ⟨rfl, rfl, rfl⟩ := h
            have p2 := eq_true hdd
            have p3 : (s.toList == ([45, 45] : List UInt8)) = true := beq_iff_eq.mpr hdd
            go_wp2
            obtain ⟨Af3, cf3, Al3, cl3, vo3, vr3, hbk3, hg3, hf3, ⟨hl3, hcl3⟩, ho3, hr3, hB3⟩ := hT2
            obtain ⟨Ar3, cr3, e3⟩ := Kd.R_slice hr3
            subst e3
            obtain ⟨Ao3, co3, e4⟩ := Kd.R_slice ho3
            subst e4
            have hml := mu_len l'
            have HL3 := Aside0.mk hl3
            have BK := Aside0.mk (blk_drew hbk3)
            have HO := Aside0.mk (Kd.R_drew ho3)
            have HR := Aside0.mk (Kd.R_drew hr3)
            have HB3 := Aside0.mk (below_drew hB3)
            have BRx := Aside0.mk (blk_drew (blk_below BR.out hB3))
            clear hbk3 hf3 ho3 hr3 hB3 hl3
            refine start_ (n := 15) (S := fun w' => w'.cell? ⟨g, 1, none⟩ = some (.slice Al3 l'.length cl3) ∧ w'.cell? ⟨g, 3, none⟩ = some (.slice Ar3 r.length cr3)) (ds := [14]) #[false, false, false, false, false, false, false, false, false, false, false, false, false, false, false] (by kernel_rfl) rfl rfl ⟨(blk_cell BK.out 1).trans rfl, (blk_cell BK.out 3).trans rfl⟩ (fun hHeld => ?_); refine with_tabW flags_tab9 flags_bits9 (fun HT_ HW_ => ?_)
            generalize (wr.setCell ⟨g, 1, none⟩ (.slice A' l'.length (cl - 1))).drew = w6 at BK HO HR HB3 BRx hHeld ⊢
            refine pu_ 0 49 (lb_ 15 1) rfl rfl (ao_ HT_) ?_
            refine pu_ 1 50 (lb_ 15 3) rfl rfl (ao_ HT_) ?_
            refine pu_ 2 51 (lb_ 15 7) rfl rfl (ao_ HT_) ?_
            refine pu_ 3 52 (lb_ 15 15) rfl rfl (ao_ HT_) ?_
            refine pu_ 4 53 (lb_ 15 31) rfl rfl (ao_ HT_) ?_
            refine tk_ 5 54 (lb_ 15 63) rfl rfl (take_ofW HT_.out HW_.out (by kernel_rfl)) hHeld ?_
            refine pu_ 6 55 (lb_ 15 127) rfl rfl (ao_ HT_) ?_
            refine pu_ 7 56 (lb_ 15 255) rfl rfl (ao_ HT_) ?_
            refine pu_ 8 57 (lb_ 15 511) rfl rfl (ao_ HT_) ?_
            refine tk_ 9 58 (lb_ 15 1023) rfl rfl (take_ofW HT_.out HW_.out (by kernel_rfl)) hHeld ?_
            refine one_ (i := 10) (N := some 59) #[true, true, true, true, true, true, true, true, true, true, true, false, false, false, false] rfl rfl (one_of HT_.out (by kernel_rfl)) (by decide) (fun K hK => ?_)
            refine Kd.R_append_rows_step Kd.string (w0 := w2) w2.heap.size (by rfl) (.tmp 54) (.tmp 58) 23 9 (.string ⟨#[]⟩) 16 rfl Tryd.underlying23 info9t rfl (by decide) (by omega) (.slice Ar3 r.length cr3) r l' _ _ _ (fun _ => True) (fun _ => False) rfl rfl ?aO ?aR (fun _ _ h => h) (fun _ h => h.elim) ?aF ?aB ?aS ?aL ?_
            (case aR => exact Kd.C_below HL3.out HB3.out)
            (case aB => exact HB3.out)
            (case aF => exact (fun _ _ => trivial))
            (case aO => exact HR.out)
            (case aS => exact below_size HB3.out)
            (case aL => have := HM.out; omega)
            intro v1 w7 ho hb hg1 hat
            obtain ⟨A5, c5, e5⟩ := Kd.R_slice ho
            subst e5
            simp only [List.length_append] at ho
            have BK7 := blk_grown BK.out hg1 (Kd.R_ne HR.out BK.out (by decide))
            have BR7 := blk_grown BRx.out hg1 (Kd.R_ne HR.out BRx.out (by decide))
            have HO7 := R_apart HO.out HR.out (by decide) hg1
            refine hK.out _ _ ⟨(blk_cell BK7 1).trans rfl, (blk_cell BK7 3).trans rfl⟩ (fun hHeld => ?_)
            clear hK K
            simp only [List.length_append]
            refine nm_ 59 ?_
            refine pu_ 11 60 (lb_ 15 4095) rfl rfl (ao_ HT_) ?_
            refine pu_ 12 61 (lb_ 15 8191) rfl rfl (ao_ HT_) ?_
            refine pu_ 13 62 (lb_ 15 16383) rfl rfl (ao_ HT_) ?_
            refine last_ (i := 14) (N := none) #[true, true, true, true, true, true, true, true, true, true, true, true, true, true, true] rfl rfl (one_of HT_.out (by kernel_rfl)) (by decide) (fun K hK => ?_)
            have hs3 : w7.cell? ⟨g, 3, none⟩ = some (.slice Ar3 r.length cr3) := (blk_cell BK7 3).trans rfl
            have hfs3 := blk_frozen BK7 3
            refine skip_ (w1 := ?_) (by rfl) rfl ?_ ?_
            rotate_left
            · go_simp
              rfl
            refine hK.out _ _ ?_
            clear hK K hs3 hfs3 hHeld
            refine done_ (done_of HT_.out (by kernel_rfl)) ?_
            have NE := blk_ne BR7 BK7 (by decide)
            have BK8 := blk_put BK7 3 (.slice A5 (r.length + l'.length) c5) rfl
            have BR8 := blk_far (p := ⟨g, 3, none⟩) BR7 NE (.slice A5 (r.length + l'.length) c5)
            have HO8 := Kd.R_set HO7 BK7 (by decide) 3 (.slice A5 (r.length + l'.length) c5)
            have HR8 := Kd.R_set ho BK7 (by decide) 3 (.slice A5 (r.length + l'.length) c5)
            have HB8 := below_step HB.out (below_set (g := g) (j := 3) (v := .slice A5 (r.length + l'.length) c5) hb hg3)
            clear BK7 BR7 HO7 ho hb hg1 hat BK HO HR HB3 BRx
            generalize (w7.setCell ⟨g, 3, none⟩ (.slice A5 (r.length + l'.length) c5)) = w8 at BK8 BR8 HO8 HR8 HB8 ⊢
            have hc2 : w8.cell? ⟨g, 2, none⟩ = some (.slice Ao3 o.length co3) := (blk_cell BK8 2).trans rfl
            have hc3 : w8.cell? ⟨g, 3, none⟩ = some (.slice A5 (r.length + l'.length) c5) := (blk_cell BK8 3).trans rfl
            have hr0 : w8.cell? ⟨gr, 0, none⟩ = some (.slice none 0 0) := (blk_cell BR8 0).trans rfl
            have hr1 : w8.cell? ⟨gr, 1, none⟩ = some (.slice none 0 0) := (blk_cell BR8 1).trans rfl
            have hq0 := blk_frozen BR8 0
            have hq1 := blk_frozen BR8 1
            go_wp2
            refine bodyPost_ret (results_ct rfl _ _ gr 25 #[.slice Ao3 o.length co3, .slice A5 (r.length + l'.length) c5] (0, 0) _ rfl (blk_put (blk_put BR8 0 _ rfl) 1 _ rfl) Tryd.underlying25 rfl (by kernel_rfl)) rfl ?_
            exact ⟨_, _, rfl, Kd.R_lower (Kd.R_set (Kd.R_set HO8 BR8 (by decide) _ _) (blk_put BR8 0 _ rfl) (by decide) _ _) (below_size HB.out), Kd.R_lower (Kd.R_set (Kd.R_set HR8 BR8 (by decide) _ _) (blk_put BR8 0 _ rfl) (by decide) _ _) (below_size HB.out), below_set (below_set HB8 hge) hge⟩
          · rw [if_neg hdd] at EQ
            have p2 := eq_false hdd
            have p3 : (s.toList == ([45, 45] : List UInt8)) = false := beq_eq_false_iff_ne.mpr hdd
            cases hv : oneT fl l' o r s with
            | none =>
              rw [hv] at EQ
              subst EQ
              simp only [Option.some.injEq, Prod.mk.injEq] at h
              obtain ⟨rfl, rfl, rfl⟩ := h
              go_wp2_with (first | (go_at_call 24; refine (one_walk w2 _ g fl l' o r s HTAB2.out hT2 (HS.out s List.mem_cons_self) (by omega) hmo hmr).mono ?_; rintro e w5 hP; rw [hv] at hP; obtain ⟨rfl, h1⟩ := hP; have BR5 := blk_below BR.out h1; have hr0 : w5.cell? ⟨gr, 0, none⟩ = some (.slice none 0 0) := (blk_cell BR5 0).trans rfl; have hr1 : w5.cell? ⟨gr, 1, none⟩ = some (.slice none 0 0) := (blk_cell BR5 1).trans rfl; have hr2 := blk_frozen BR5 0; have hr3 := blk_frozen BR5 1))
              refine bodyPost_ret (results_ct rfl _ _ gr 25 #[.slice none 0 0, .slice none 0 0] (0, 0) _ rfl (blk_put (blk_put BR5 0 _ rfl) 1 _ rfl) Tryd.underlying25 rfl (by kernel_rfl)) rfl ?_
              exact ⟨_, _, rfl, Kd.R_nil _ _ _ _ _, Kd.R_nil _ _ _ _ _, below_set (below_set (below_step HB.out h1) hge) hge⟩
            | some x =>
              rw [hv] at EQ
              obtain ⟨m1, m2, m3, m4⟩ := oneT_mu hv
              go_wp2_with (first | (go_at_call 24; refine (one_walk w2 _ g fl l' o r s HTAB2.out hT2 (HS.out s List.mem_cons_self) (by omega) hmo hmr).mono ?_; rintro e w5 hP; rw [hv] at hP; obtain ⟨rfl, h1⟩ := hP))
              go_roundg gk
              case measure => omega
              case rel => exact ⟨x.1, x.2.1, x.2.2, by simp only [List.length_cons] at hlen; omega, ⟨fun s hs => HS.out s (List.mem_cons_of_mem _ (m4 s hs))⟩, ⟨by have := HM.out; omega⟩, ⟨EQ⟩, ⟨h1⟩⟩
end Go.Proofs.YtlginoicaeonhaaDoor.P
