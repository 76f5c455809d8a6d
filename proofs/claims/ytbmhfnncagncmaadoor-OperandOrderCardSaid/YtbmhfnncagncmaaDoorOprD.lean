/- The walk of the reader's method words, with any closure that sets fields of a plan; and of flags. No conditions beyond texts' lengths. -/
import Derived.Test.YtbmhfnncagncmaaDoorPx0
import Derived.Test.YtbmhfnncagncmaaDoorPx12
import Derived.Test.YtbmhfnncagncmaaDoorPx17
import Derived.Test.YtbmhfnncagncmaaDoorOprC
import Derived.Lib.SplitLaws
namespace Go.Proofs.YtbmhfnncagncmaaDoor.P
open Go.RowKit Go.Proofs.YtbmhfnncagncmaaDoorW.PrintWords Go.Proofs.YtbmhfnncagncmaaDoorW.PrintLast
set_option linter.unusedVariables false
set_option linter.unusedSimpArgs false
/-- What is not one of these two blocks stays. -/
def Fr2 (W w' : World) (g h : Nat) : Prop := ∀ (k : Nat) (cs : Array Value) (t : TypeId), k ≠ g → k ≠ h → W.heap[k]? = some (.cells cs t (0, 0)) → w'.heap[k]? = some (.cells cs t (0, 0))
theorem Fr2.refl (W : World) (g h : Nat) : Fr2 W W g h := fun _ _ _ _ _ e => e
theorem Fr2.below {W X w' : World} {g h : Nat} (f : Fr2 W X g h) (hb : Below X.heap.size X w') : Fr2 W w' g h := fun k cs t h1 h2 e => blk_below (f k cs t h1 h2 e) hb
theorem Fr2.setl {W X : World} {g h : Nat} (f : Fr2 W X g h) (i : Nat) (v : Value) : Fr2 W (X.setCell ⟨g, i, none⟩ v) g h := fun k cs t h1 h2 e => blk_far (f k cs t h1 h2 e) h1 v
theorem Fr2.setr {W X : World} {g h : Nat} (f : Fr2 W X g h) (i : Nat) (v : Value) : Fr2 W (X.setCell ⟨h, i, none⟩ v) g h := fun k cs t h1 h2 e => blk_far (f k cs t h1 h2 e) h2 v
theorem Fr2.setP {W X w' : World} {g h : Nat} {p : PL} (f : Fr2 W X g h) (s : SetP X w' h p) : Fr2 W w' g h := by
  obtain ⟨⟨Y, hb, rfl | ⟨i, v, rfl⟩⟩, -⟩ := s
  · exact f.below hb
  · exact (f.below hb).setr i v
theorem Fr2.trans {W X w' : World} {g h : Nat} (f : Fr2 W X g h) (f2 : Fr2 X w' g h) : Fr2 W w' g h := fun k cs t h1 h2 e => f2 k cs t h1 h2 (f k cs t h1 h2 e)
theorem Fr2.fr {W X w' : World} {g h : Nat} (f : Fr2 W X g h) (f2 : Fr X w' g) : Fr2 W w' g h := fun k cs t h1 h2 e => f2 k cs t h1 (f k cs t h1 h2 e)
theorem RD.setP {w0 X w' : World} {g h : Nat} {A : Option Addr} {c : Nat} {l : List S60} {ok : Bool} {p : PL} (r : RD w0 X g A c l ok) (s : SetP X w' h p) (hgh : g ≠ h) (hh : w0.heap.size ≤ h) : RD w0 w' g A c l ok := by
  obtain ⟨⟨Y, hb, rfl | ⟨i, v, rfl⟩⟩, -⟩ := s
  · exact r.bel hb
  · obtain ⟨h1, h2, h3, h4, h5⟩ := r.bel hb
    exact ⟨blk_far h1 hgh v, h2, h3, h4, below_set h5 hh⟩
theorem RD.far {w0 X : World} {g h : Nat} {A : Option Addr} {c : Nat} {l : List S60} {ok : Bool} (r : RD w0 X g A c l ok) (i : Nat) (v : Value) (hgh : g ≠ h) (hh : w0.heap.size ≤ h) : RD w0 (X.setCell ⟨h, i, none⟩ v) g A c l ok := by
  obtain ⟨h1, h2, h3, h4, h5⟩ := r
  exact ⟨blk_far h1 hgh v, h2, h3, h4, below_set h5 hh⟩
theorem R_setP {X w' : World} {h base : Nat} {p p0 : PL} {v : Value} {ws : List ByteArray} {ok : Nat → Prop} (r : Kd.R Kd.string 9 X base ok v ws) (hp : X.heap[h]? = some (.cells p0.c 25 (0, 0))) (s : SetP X w' h p) : Kd.R Kd.string 9 w' base ok v ws := by
  obtain ⟨⟨Y, hb, rfl | ⟨i, u, rfl⟩⟩, -⟩ := s
  · exact Kd.R_below r hb
  · exact Kd.R_set (Kd.R_below r hb) (blk_below hp hb) (by decide) i u
def wordsOf (v : ByteArray) : List ByteArray := Lib.splitB ⟨#[44]⟩ 0 (Lib.countB v ⟨#[44]⟩) v
theorem words_f (v : ByteArray) (hv : v.size < 4294967281) : arg_Words.f v 44 = some (wordsOf v) := by
  unfold arg_Words.f strings_Split.f
  rw [show strOfNums ([44] : List Int) = ⟨#[44]⟩ from by decide, if_pos ⟨hv, by decide⟩]
  rfl
def inF (sem : PL → ByteArray → PL × Bool) (ws : List ByteArray) (s : PL × Bool) : PL × Bool := ws.foldl (fun s w => ((sem s.1 w).1, (sem s.1 w).2 && s.2)) s
def outFl (sem : PL → ByteArray → PL × Bool) (key : ByteArray) (l : List S60) (s : PL × Bool) : PL × Bool := l.foldl (fun s o => if (o.f0.toList == key.toList) = true then inF sem (wordsOf o.f1) s else s) s
theorem inF_drop (sem : PL → ByteArray → PL × Bool) (ws : List ByteArray) (s : PL × Bool) (j : Nat) (hj : j < ws.length) : inF sem (ws.drop j) s = inF sem (ws.drop (j + 1)) ((sem s.1 ws[j]).1, (sem s.1 ws[j]).2 && s.2) := by
  rw [List.drop_eq_getElem_cons hj]; rfl
theorem outFl_drop (sem : PL → ByteArray → PL × Bool) (key : ByteArray) (l : List S60) (s : PL × Bool) (j : Nat) (hj : j < l.length) : outFl sem key (l.drop j) s = outFl sem key (l.drop (j + 1)) (if (l[j].f0.toList == key.toList) = true then inF sem (wordsOf l[j].f1) s else s) := by
  rw [List.drop_eq_getElem_cons hj]; rfl
theorem words_len (v : ByteArray) : (wordsOf v).length ≤ v.size + 1 := by
  have hl : (wordsOf v).length = Lib.countB v ⟨#[44]⟩ + 1 := Lib.splitB_all ⟨#[44]⟩ (by decide) 0 _ v rfl
  have hcn := Lib.countB_le ⟨#[44]⟩ (by decide) v.size v (Nat.le_refl _)
  omega
theorem opt_get (l : List S60) (k : Nat) (hk : k < l.length) : rd_T60 l (k : Int) = l[k] := by simp [rd_T60, hk]
theorem rdOf_get (l : List ByteArray) (i : Nat) (hi : i < l.length) : rdOf ByteArray.empty l (i : Int) = l[i] := by simp [rdOf, hi]
set_option maxHeartbeats 8000000 in
set_option maxRecDepth 100000 in
theorem words_walk (sem : PL → ByteArray → PL × Bool) (fn gq gp : Nat) (lb : Array Value) (eg : ∀ args w, (callFunc fn args).run Tryd.prog w = .ok (.enter fn args) w)
    (hcl : ∀ (p : PL) (word : ByteArray) (W : World), W.heap[gq]? = some (.cells #[.pointer (some ⟨gp, 0, none⟩)] 46 (0, 0)) → W.heap[gp]? = some (.cells p.c 25 (0, 0)) → Calls Tryd.prog fn (#[.string word] ++ lb) W fun e w' => e = .returned (.bool (sem p word).2) ∧ SetP W w' gp (sem p word).1)
    (w0 W : World) (g : Nat) (A : Option Addr) (c : Nat) (l : List S60) (ok : Bool) (key : ByteArray) (p : PL) (pE : PL) (okE : Bool) (h : RD w0 W g A c l ok) (htab : TabAt w0)
    (hq : W.heap[gq]? = some (.cells #[.pointer (some ⟨gp, 0, none⟩)] 46 (0, 0))) (hp : W.heap[gp]? = some (.cells p.c 25 (0, 0))) (hg0 : w0.heap.size ≤ gp) (h1 : g ≠ gp) (h2 : gq ≠ g) (h3 : gq ≠ gp) (hl : l.length ≤ 1000000) (hs : ∀ o ∈ l, o.f1.size < 4294967281)
    (hE : outFl sem key l (p, ok) = (pE, okE)) :
    Calls Tryd.prog 28 #[.pointer (some ⟨g, 0, none⟩), .string key, .func (.func fn) #[] lb] W fun e w' => e = .returned (.tuple #[]) ∧ RD w0 w' g A c l okE ∧ w'.heap[gp]? = some (.cells pE.c 25 (0, 0)) ∧ Fr2 W w' g gp := by
  have HCL := Aside0.mk hcl
  have HR := Aside0.mk h
  have HT := Aside0.mk htab
  have HQ := Aside0.mk hq
  have HP := Aside0.mk hp
  have HG0 := Aside0.mk hg0
  have H1 := Aside0.mk h1
  have H2 := Aside0.mk h2
  have H3 := Aside0.mk h3
  have HS := Aside0.mk hs
  have HE := Aside0.mk hE
  obtain ⟨i0, i1, j0, j1⟩ := c2_ ⟨h.1⟩
  clear hcl h htab hq hp hg0 h1 h2 h3 hs hE
  obtain ⟨n, hnn⟩ : ∃ n, n = l.length := ⟨_, rfl⟩
  have NN := Aside0.mk hnn
  rw [← hnn] at i0 hl
  have hn : (n : Int) ≤ 9223372036854775807 := by omega
  clear hnn
  go_enter Tryd.func28, Tryd.ntmps28
  go_wp2
  clear i0 i1 j0 j1
  go_loopg [7, 9, 15] n (fun gg _ _ s15 wr => ∃ (kk : Nat) (p' : PL) (ok' : Bool), kk ≤ n ∧ n - kk ≤ gg ∧ s15 = .int .i64 kk ∧ Aside0 (RD w0 wr g A c l ok') ∧ Aside0 (wr.heap[gp]? = some (.cells p'.c 25 (0, 0))) ∧ Aside0 (Fr2 W wr g gp) ∧ Aside0 (outFl sem key (l.drop kk) (p', ok') = (pE, okE)))
  case atStart => exact ⟨0, p, ok, Nat.zero_le _, by omega, rfl, HR, HP, ⟨Fr2.refl _ _ _⟩, HE⟩
  case round =>
    obtain ⟨kk, p', ok', hkk, hgg, rfl, KR, KP, KF, KE⟩ := hrel
    clear HR HP HE
    have KQ := Aside0.mk (KF.out gq _ _ H2.out H3.out HQ.out)
    by_cases hlt : kk < n
    · have hltz : (kk : Int) < (n : Int) := by omega
      have h0z : (0 : Int) ≤ (kk : Int) := by omega
      have hll : kk < l.length := by rw [← NN.out]; exact hlt
      obtain ⟨ad, eA, c0, c1⟩ := at_T60 (Kd.C_below KR.out.2.2.1 KR.out.2.2.2.2) (kk : Int) h0z (by rw [← NN.out]; exact hltz)
      subst eA
      simp only [Int.toNat_natCast] at c0 c1
      rw [show rd_T60 l (kk : Int) = l[kk] from opt_get l kk hll] at c0 c1
      have hKE := KE.out
      rw [outFl_drop sem key l _ kk hll] at hKE
      obtain ⟨x, hx⟩ : ∃ x, x = l[kk] := ⟨_, rfl⟩
      have HX := Aside0.mk (HS.out l[kk] (List.getElem_mem _))
      rw [← hx] at c0 c1 hKE HX
      clear hx
      cases hk : (x.f0.toList == key.toList) with
      | false =>
        rw [hk, if_neg (by simp)] at hKE
        have KE2 := Aside0.mk hKE
        clear hKE
        go_wp2_with (first | ((with_reducible refine gate_dst (N := 7) rfl ?_); refine box_e 7 #[.string ⟨#[]⟩, .string ⟨#[]⟩] 60 ?_; intro gx hg w1 hbox hb; have H1x := Aside0.mk hb; have e1 := blk_frozen hbox 0; have e2 := blk_frozen hbox 1; have e3 : w1.cell? ⟨gx, 0, none⟩ = some (.string ⟨#[]⟩) := (blk_cell hbox 0).trans rfl; have e4 : w1.cell? ⟨gx, 1, none⟩ = some (.string ⟨#[]⟩) := (blk_cell hbox 1).trans rfl; have HGX := Aside0.mk hg; clear hg hb hbox))
        have HY : Below wr.heap.size wr ((w1.setCell ⟨gx, 0, none⟩ (.string x.f0)).setCell ⟨gx, 1, none⟩ (.string x.f1)) := below_set (below_set H1x.out (Nat.le_of_eq HGX.out.symm)) (Nat.le_of_eq HGX.out.symm)
        go_roundg (n - (kk + 1))
        case measure => omega
        case rel => exact ⟨kk + 1, p', ok', by omega, by omega, by go_num, ⟨KR.out.bel HY⟩, ⟨blk_below KP.out HY⟩, ⟨KF.out.below HY⟩, KE2⟩
      | true =>
        rw [hk, if_pos rfl] at hKE
        obtain ⟨ws, hws⟩ : ∃ ws, ws = wordsOf x.f1 := ⟨_, rfl⟩
        have HW := Aside0.mk (words_f x.f1 HX.out)
        have hwl := words_len x.f1
        rw [← hws] at hKE HW hwl
        clear hws
        obtain ⟨⟨pM, okM⟩, hM⟩ : ∃ r, r = inF sem ws (p', ok') := ⟨_, rfl⟩
        rw [← hM] at hKE
        have KE2 := Aside0.mk hKE
        have HM := Aside0.mk hM.symm
        clear hKE hM
        obtain ⟨m, hm⟩ : ∃ m, m = ws.length := ⟨_, rfl⟩
        have MM := Aside0.mk hm
        have hxs := HX.out
        have hmb : (m : Int) ≤ 9223372036854775807 := by omega
        clear hwl hxs hm
        go_wp2_with (first
          | ((with_reducible refine gate_dst (N := 7) rfl ?_); refine box_e 7 #[.string ⟨#[]⟩, .string ⟨#[]⟩] 60 ?_; intro gx hg w1 hbox hb; have H1x := Aside0.mk hb; have e1 := blk_frozen hbox 0; have e2 := blk_frozen hbox 1; have e3 : w1.cell? ⟨gx, 0, none⟩ = some (.string ⟨#[]⟩) := (blk_cell hbox 0).trans rfl; have e4 : w1.cell? ⟨gx, 1, none⟩ = some (.string ⟨#[]⟩) := (blk_cell hbox 1).trans rfl; have HGX := Aside0.mk hg; clear hg hb hbox)
          | (go_at_call 42; generalize hW : World.setCell (World.setCell w1 _ _) _ _ = wz; have HY := Aside0.mk (show Below wr.heap.size wr wz by {rw [← hW]; exact below_set (below_set H1x.out (Nat.le_of_eq HGX.out.symm)) (Nat.le_of_eq HGX.out.symm)}); clear hW e1 e2 e3 e4 H1x; refine (arg_Words.calls x.f1 44 ws _ HW.out (HT.out.below (KR.out.bel HY.out).2.2.2.2)).mono ?_; rintro e w2 ⟨v0, rfl, hr, hb⟩; obtain ⟨A2, c2, ev⟩ := Kd.R_slice hr; subst ev; rw [← MM.out]; have K9 := Aside0.mk hr; have HZ := Aside0.mk hb; clear hr hb))
        go_loopg [9, 27] m (fun gg _ s27 wv => ∃ (jj : Nat) (p2 : PL) (ok2 : Bool), jj ≤ m ∧ m - jj ≤ gg ∧ s27 = .int .i64 jj ∧ Aside0 (RD w0 wv g (some ad) c l ok2) ∧ Aside0 (wv.heap[gp]? = some (.cells p2.c 25 (0, 0))) ∧ Aside0 (Fr2 W wv g gp) ∧ Aside0 (Kd.R Kd.string 9 wv wz.heap.size (fun _ => True) (.slice A2 m c2) ws) ∧ Aside0 (inF sem (ws.drop jj) (p2, ok2) = (pM, okM)))
        case atStart => exact ⟨0, p', ok', Nat.zero_le _, by omega, rfl, ⟨(KR.out.bel HY.out).bel HZ.out⟩, ⟨blk_below (blk_below KP.out HY.out) HZ.out⟩, ⟨(KF.out.below HY.out).below HZ.out⟩, ⟨by rw [MM.out]; exact K9.out⟩, HM⟩
        case round =>
          obtain ⟨jj, p2, ok2, hjj, hgg2, rfl, QR, QP, QF, Q9, QE⟩ := hrel
          clear KR KP KF KQ K9 HY HZ HM
          have QQ := Aside0.mk (QF.out gq _ _ H2.out H3.out HQ.out)
          by_cases hlt2 : jj < m
          · have hltz2 : (jj : Int) < (m : Int) := by omega
            have h0z2 : (0 : Int) ≤ (jj : Int) := by omega
            have hjl : jj < ws.length := by rw [← MM.out]; exact hlt2
            obtain ⟨ad2, eA2, d0⟩ := Kd.at_string (Kd.R_reads' Q9.out).2.2 (jj : Int) h0z2 (by rw [← MM.out]; exact hltz2)
            subst eA2
            simp only [Int.toNat_natCast] at d0
            rw [rdOf_get ws jj hjl] at d0
            have hQE := QE.out
            rw [inF_drop sem ws _ jj hjl] at hQE
            obtain ⟨y, hy⟩ : ∃ y, y = ws[jj] := ⟨_, rfl⟩
            rw [← hy] at d0 hQE
            clear hy
            have hcl := HCL.out p2 y _ QQ.out QP.out
            obtain ⟨⟨pn, sb⟩, hsb⟩ : ∃ r, r = sem p2 y := ⟨_, rfl⟩
            simp only [← hsb] at hcl hQE
            have QE2 := Aside0.mk hQE
            have HCL2 := Aside0.mk hcl
            clear hcl hQE hsb
            cases sb <;>
            (go_wp2_with (go_at_fn fn; refine HCL2.out.mono ?_; rintro e w3 ⟨rfl, hsp⟩; have HSP := Aside0.mk hsp; have QR2 := Aside0.mk (QR.out.setP hsp H1.out HG0.out); clear hsp d0; obtain ⟨i0, i1, j0, j1⟩ := c2_ ⟨QR2.out.1⟩)
             go_roundg (m - (jj + 1))
             case measure => omega
             case rel => exact ⟨jj + 1, pn, _, by omega, by omega, by go_num, ⟨QR2.out.put _⟩, ⟨blk_far HSP.out.2 H1.out.symm _⟩, ⟨(QF.out.setP HSP.out).setl 1 _⟩, ⟨Kd.R_set (R_setP Q9.out QP.out HSP.out) QR2.out.1 (by decide) 1 _⟩, QE2⟩)
          · have hltz2 : ¬ (jj : Int) < (m : Int) := by omega
            have hj2 : jj = m := by omega
            subst hj2
            have hQE := QE.out
            rw [MM.out, List.drop_length] at hQE
            obtain ⟨rfl, rfl⟩ : p2 = pM ∧ ok2 = okM := by simpa [inF] using hQE
            clear hQE
            go_wp2
            go_roundg (n - (kk + 1))
            case measure => omega
            case rel => exact ⟨kk + 1, p2, ok2, by omega, by omega, by go_num, QR, QP, QF, KE2⟩
    · have hltz : ¬ (kk : Int) < (n : Int) := by omega
      have hk2 : kk = n := by omega
      subst hk2
      have hKE := KE.out
      rw [NN.out, List.drop_length] at hKE
      obtain ⟨rfl, rfl⟩ : p' = pE ∧ ok' = okE := by simpa [outFl] using hKE
      clear hKE
      go_wp2
      go_end0
      exact ⟨rfl, KR.out, KP.out, KF.out⟩
end Go.Proofs.YtbmhfnncagncmaaDoor.P
