/- The walks of the reader's methods sizes and flags. No conditions beyond texts' lengths. -/
import Derived.Test.YtbmhfnncagncmaaDoorPx0
import Derived.Test.YtbmhfnncagncmaaDoorOprD
namespace Go.Proofs.YtbmhfnncagncmaaDoor.P
open Go.RowKit Go.Proofs.YtbmhfnncagncmaaDoorW.PrintWords Go.Proofs.YtbmhfnncagncmaaDoorW.PrintLast
set_option linter.unusedVariables false
set_option linter.unusedSimpArgs false
def flagsF (l : List S60) (s : PL × Bool) : PL × Bool := outFl iflagS ⟨#[105, 102, 108, 97, 103]⟩ l (outFl convS ⟨#[99, 111, 110, 118]⟩ l s)
set_option maxHeartbeats 4000000 in
set_option maxRecDepth 100000 in
theorem flags_walk (gp : Nat) (w0 W : World) (g : Nat) (A : Option Addr) (c : Nat) (l : List S60) (ok : Bool) (p pE : PL) (okE : Bool) (h : RD w0 W g A c l ok) (htab : TabAt w0)
    (hp : W.heap[gp]? = some (.cells p.c 25 (0, 0))) (hg0 : w0.heap.size ≤ gp) (h1 : g ≠ gp) (hl : l.length ≤ 1000000) (hs : ∀ o ∈ l, o.f1.size < 4294967281) (hE : flagsF l (p, ok) = (pE, okE)) :
    Calls Tryd.prog 12 #[.pointer (some ⟨g, 0, none⟩), .pointer (some ⟨gp, 0, none⟩)] W fun e w' => e = .returned (.tuple #[]) ∧ RD w0 w' g A c l okE ∧ w'.heap[gp]? = some (.cells pE.c 25 (0, 0)) ∧ Fr2 W w' g gp := by
  have HR := Aside0.mk h
  have HT := Aside0.mk htab
  have HP := Aside0.mk hp
  have HG0 := Aside0.mk hg0
  have H1 := Aside0.mk h1
  have HL := Aside0.mk hl
  have HS := Aside0.mk hs
  obtain ⟨⟨p1, ok1⟩, hm⟩ : ∃ r, r = outFl convS ⟨#[99, 111, 110, 118]⟩ l (p, ok) := ⟨_, rfl⟩
  unfold flagsF at hE
  rw [← hm] at hE
  have HE := Aside0.mk hE
  have HM := Aside0.mk hm.symm
  have eg29 : ∀ args w, (callFunc 29 args).run Tryd.prog w = .ok (.enter 29 args) w := enters_of Tryd.func29 (by kernel_rfl) rfl
  have eg31 : ∀ args w, (callFunc 31 args).run Tryd.prog w = .ok (.enter 31 args) w := enters_of Tryd.func31 (by kernel_rfl) rfl
  have hmf : ∀ (fn : Fn) (first cap : Array Value) (w : World), (Instr.makeFunc fn first cap).run Tryd.prog w = .ok (.func fn first cap) w := fun _ _ _ _ => rfl
  clear h htab hp hg0 h1 hl hs hE hm
  go_enter Tryd.func12, Tryd.ntmps12
  go_wp2_with (first
    | ((with_reducible refine gate_dst (N := 3) rfl ?_); refine box_e 3 #[.pointer (some ⟨gp, 0, none⟩)] 46 ?_; intro gq hg w1 hbox hb; have HGQ := Aside0.mk hg; have HQ := Aside0.mk hbox; have HF := Aside0.mk ((Fr2.refl W g gp).below hb); have H2 := Aside0.mk (show gq ≠ g from by rw [hg]; exact Nat.ne_of_gt (blk_lt HR.out.1)); have H3 := Aside0.mk (show gq ≠ gp from by rw [hg]; exact Nat.ne_of_gt (blk_lt HP.out)); replace HR := Aside0.mk (HR.out.bel hb); replace HP := Aside0.mk (blk_below HP.out hb); clear hg hbox hb)
    | (go_at_call 28; (with_reducible refine (words_walk convS 29 gq gp #[.pointer (some ⟨gq, 0, none⟩)] eg29 (fun p word W hq hp => clos29 gq gp p word W hq hp) w0 _ g A c l ok ⟨#[99, 111, 110, 118]⟩ p p1 ok1 HR.out HT.out HQ.out HP.out HG0.out H1.out H2.out H3.out HL.out HS.out HM.out).mono ?_); rintro e w2 ⟨rfl, hr, hp, hf⟩; replace HR := Aside0.mk hr; replace HP := Aside0.mk hp; replace HQ := Aside0.mk (hf gq _ _ H2.out H3.out HQ.out); replace HF := Aside0.mk (HF.out.trans hf); clear hr hp hf)
    | (go_at_call 28; (with_reducible refine (words_walk iflagS 31 gq gp #[.pointer (some ⟨gq, 0, none⟩)] eg31 (fun p word W hq hp => clos31 gq gp p word W hq hp) w0 _ g A c l ok1 ⟨#[105, 102, 108, 97, 103]⟩ p1 pE okE HR.out HT.out HQ.out HP.out HG0.out H1.out H2.out H3.out HL.out HS.out HE.out).mono ?_); rintro e w3 ⟨rfl, hr, hp, hf⟩; replace HR := Aside0.mk hr; replace HP := Aside0.mk hp; replace HF := Aside0.mk (HF.out.trans hf); clear hr hp hf))
  go_end0
  exact ⟨rfl, HR.out, HP.out, HF.out⟩
set_option maxHeartbeats 8000000 in
set_option maxRecDepth 100000 in
theorem sizes_walk (k : Nat) (gp : Nat) (w0 W : World) (g : Nat) (A : Option Addr) (c : Nat) (l : List S60) (ok : Bool) (p : PL) (h : RD w0 W g A c l ok) (htab : TabAt w0)
    (hp : W.heap[gp]? = some (.cells p.c 25 (0, 0))) (hg0 : w0.heap.size ≤ gp) (h1 : g ≠ gp) (ibs obs cbs bs skip seek count : Int) (b1 b2 b3 b4 b5 b6 b7 : Bool)
    (e1 : sizeT k l ⟨#[105, 98, 115]⟩ 512 = some (ibs, b1)) (e2 : sizeT k l ⟨#[111, 98, 115]⟩ 512 = some (obs, b2)) (e3 : sizeT k l ⟨#[99, 98, 115]⟩ 0 = some (cbs, b3)) (e4 : sizeT k l ⟨#[98, 115]⟩ 0 = some (bs, b4)) (e5 : numT k l ⟨#[115, 107, 105, 112]⟩ 0 = some (skip, b5)) (e6 : numT k l ⟨#[115, 101, 101, 107]⟩ 0 = some (seek, b6)) (e7 : numT k l ⟨#[99, 111, 117, 110, 116]⟩ 0 = some (count, b7)) :
    Calls Tryd.prog 11 #[.pointer (some ⟨g, 0, none⟩), .pointer (some ⟨gp, 0, none⟩)] W fun e w' => e = .returned (.tuple #[]) ∧ RD w0 w' g A c l (ok && b1 && b2 && b3 && b4 && b5 && b6 && b7) ∧
      w'.heap[gp]? = some (.cells ({ p with ibs := if hasT l ⟨#[98, 115]⟩ = true then bs else ibs, obs := if hasT l ⟨#[98, 115]⟩ = true then bs else obs, cbs := cbs, skip := skip, seek := seek, count := count, all := !hasT l ⟨#[99, 111, 117, 110, 116]⟩ }).c 25 (0, 0)) ∧ Fr2 W w' g gp := by
  have HR := Aside0.mk h
  have HT := Aside0.mk htab
  have HP := Aside0.mk hp
  have HG0 := Aside0.mk hg0
  have H1 := Aside0.mk h1
  have HF := Aside0.mk (Fr2.refl W g gp)
  have E1 := Aside0.mk e1
  have E2 := Aside0.mk e2
  have E3 := Aside0.mk e3
  have E4 := Aside0.mk e4
  have E5 := Aside0.mk e5
  have E6 := Aside0.mk e6
  have E7 := Aside0.mk e7
  clear h htab hp hg0 h1 e1 e2 e3 e4 e5 e6 e7
  obtain ⟨hc, hhc⟩ : ∃ b, b = hasT l ⟨#[99, 111, 117, 110, 116]⟩ := ⟨_, rfl⟩
  have HC := Aside0.mk hhc.symm
  rw [← hhc]
  clear hhc
  obtain ⟨hbs, hhb⟩ : ∃ b, b = hasT l ⟨#[98, 115]⟩ := ⟨_, rfl⟩
  have HBS := Aside0.mk hhb.symm
  rw [← hhb]
  clear hhb
  go_enter Tryd.func11, Tryd.ntmps11
  go_upto_region 1 with (first | (go_at_call 26; (with_reducible refine (size_walk k w0 _ g A c l _ ⟨#[105, 98, 115]⟩ 512 ibs b1 HR.out HT.out E1.out).mono ?_); rintro e w9 ⟨rfl, hr, hf⟩; replace HR := Aside0.mk hr; replace HP := Aside0.mk (hf gp _ _ H1.out.symm HP.out); replace HF := Aside0.mk (HF.out.fr hf); clear hr hf) | (go_at_call 26; (with_reducible refine (size_walk k w0 _ g A c l _ ⟨#[111, 98, 115]⟩ 512 obs b2 HR.out HT.out E2.out).mono ?_); rintro e w9 ⟨rfl, hr, hf⟩; replace HR := Aside0.mk hr; replace HP := Aside0.mk (hf gp _ _ H1.out.symm HP.out); replace HF := Aside0.mk (HF.out.fr hf); clear hr hf) | (go_at_call 26; (with_reducible refine (size_walk k w0 _ g A c l _ ⟨#[99, 98, 115]⟩ 0 cbs b3 HR.out HT.out E3.out).mono ?_); rintro e w9 ⟨rfl, hr, hf⟩; replace HR := Aside0.mk hr; replace HP := Aside0.mk (hf gp _ _ H1.out.symm HP.out); replace HF := Aside0.mk (HF.out.fr hf); clear hr hf; have cc11 := (blk_cell HP.out 11).trans (show _ = some (.int .i64 p.ibs) from rfl); have ff11 := blk_frozen HP.out 11; have cc12 := (blk_cell HP.out 12).trans (show _ = some (.int .i64 p.obs) from rfl); have ff12 := blk_frozen HP.out 12; have cc8 := (blk_cell HP.out 8).trans (show _ = some (.int .i64 p.cbs) from rfl); have ff8 := blk_frozen HP.out 8))
  generalize hW : World.setCell (World.setCell (World.setCell _ _ _) _ _) _ _ = wz1
  replace HR := Aside0.mk (show RD w0 wz1 g A c l _ by rw [← hW]; exact (RD.far (RD.far (RD.far HR.out 11 _ H1.out HG0.out) 12 _ H1.out HG0.out) 8 _ H1.out HG0.out))
  replace HP : Aside0 (wz1.heap[gp]? = some (.cells ({ p with ibs := ibs, obs := obs, cbs := cbs }).c 25 (0, 0))) := ⟨by rw [← hW]; exact (blk_set (blk_set (blk_set HP.out 11 _) 12 _) 8 _)⟩
  replace HF := Aside0.mk (show Fr2 W wz1 g gp by rw [← hW]; exact (Fr2.setr (Fr2.setr (Fr2.setr HF.out 11 _) 12 _) 8 _))
  clear hW cc11 ff11 cc12 ff12 cc8 ff8
  cases hbs with
  | true =>
    go_upto_region 4 with (first | (go_at_call 26; (with_reducible refine (size_walk k w0 _ g A c l _ ⟨#[98, 115]⟩ 0 bs b4 HR.out HT.out E4.out).mono ?_); rintro e w9 ⟨rfl, hr, hf⟩; replace HR := Aside0.mk hr; replace HP := Aside0.mk (hf gp _ _ H1.out.symm HP.out); replace HF := Aside0.mk (HF.out.fr hf); clear hr hf) | (go_at_call 14; (with_reducible refine (has_walk w0 _ g A c l _ ⟨#[98, 115]⟩ HR.out).mono ?_); rw [HBS.out]; rintro e w9 ⟨rfl, hb⟩; replace HR := Aside0.mk (HR.out.bel hb); replace HP := Aside0.mk (blk_below HP.out hb); replace HF := Aside0.mk (HF.out.below hb); clear hb; have cc11 := (blk_cell HP.out 11).trans (show _ = some (.int .i64 ibs) from rfl); have ff11 := blk_frozen HP.out 11; have cc12 := (blk_cell HP.out 12).trans (show _ = some (.int .i64 obs) from rfl); have ff12 := blk_frozen HP.out 12))
    generalize hW : World.setCell (World.setCell _ _ _) _ _ = wz2
    replace HR := Aside0.mk (show RD w0 wz2 g A c l _ by rw [← hW]; exact (RD.far (RD.far HR.out 11 _ H1.out HG0.out) 12 _ H1.out HG0.out))
    replace HP : Aside0 (wz2.heap[gp]? = some (.cells ({ p with ibs := bs, obs := bs, cbs := cbs }).c 25 (0, 0))) := ⟨by rw [← hW]; exact (blk_set (blk_set HP.out 11 _) 12 _)⟩
    replace HF := Aside0.mk (show Fr2 W wz2 g gp by rw [← hW]; exact (Fr2.setr (Fr2.setr HF.out 11 _) 12 _))
    clear hW cc11 ff11 cc12 ff12
    go_wp2_with (first | (go_at_call 27; (with_reducible refine (number_walk k w0 _ g A c l _ ⟨#[115, 107, 105, 112]⟩ 0 skip b5 HR.out HT.out E5.out).mono ?_); rintro e w9 ⟨rfl, hr, hf⟩; replace HR := Aside0.mk hr; replace HP := Aside0.mk (hf gp _ _ H1.out.symm HP.out); replace HF := Aside0.mk (HF.out.fr hf); clear hr hf) | (go_at_call 27; (with_reducible refine (number_walk k w0 _ g A c l _ ⟨#[115, 101, 101, 107]⟩ 0 seek b6 HR.out HT.out E6.out).mono ?_); rintro e w9 ⟨rfl, hr, hf⟩; replace HR := Aside0.mk hr; replace HP := Aside0.mk (hf gp _ _ H1.out.symm HP.out); replace HF := Aside0.mk (HF.out.fr hf); clear hr hf) | (go_at_call 27; (with_reducible refine (number_walk k w0 _ g A c l _ ⟨#[99, 111, 117, 110, 116]⟩ 0 count b7 HR.out HT.out E7.out).mono ?_); rintro e w9 ⟨rfl, hr, hf⟩; replace HR := Aside0.mk hr; replace HP := Aside0.mk (hf gp _ _ H1.out.symm HP.out); replace HF := Aside0.mk (HF.out.fr hf); clear hr hf) | (go_at_call 14; (with_reducible refine (has_walk w0 _ g A c l _ ⟨#[99, 111, 117, 110, 116]⟩ HR.out).mono ?_); rw [HC.out]; rintro e w9 ⟨rfl, hb⟩; replace HR := Aside0.mk (HR.out.bel hb); replace HP := Aside0.mk (blk_below HP.out hb); replace HF := Aside0.mk (HF.out.below hb); clear hb; have cc13 := (blk_cell HP.out 13).trans (show _ = some (.int .i64 p.skip) from rfl); have ff13 := blk_frozen HP.out 13; have cc14 := (blk_cell HP.out 14).trans (show _ = some (.int .i64 p.seek) from rfl); have ff14 := blk_frozen HP.out 14; have cc15 := (blk_cell HP.out 15).trans (show _ = some (.int .i64 p.count) from rfl); have ff15 := blk_frozen HP.out 15; have cc16 := (blk_cell HP.out 16).trans (show _ = some (.bool p.all) from rfl); have ff16 := blk_frozen HP.out 16))
    go_end0
    exact ⟨rfl, (RD.far (RD.far (RD.far (RD.far HR.out 13 _ H1.out HG0.out) 14 _ H1.out HG0.out) 15 _ H1.out HG0.out) 16 _ H1.out HG0.out), (blk_set (blk_set (blk_set (blk_set HP.out 13 _) 14 _) 15 _) 16 _), (Fr2.setr (Fr2.setr (Fr2.setr (Fr2.setr HF.out 13 _) 14 _) 15 _) 16 _)⟩
  | false =>
    go_upto_region 4 with (first | (go_at_call 26; (with_reducible refine (size_walk k w0 _ g A c l _ ⟨#[98, 115]⟩ 0 bs b4 HR.out HT.out E4.out).mono ?_); rintro e w9 ⟨rfl, hr, hf⟩; replace HR := Aside0.mk hr; replace HP := Aside0.mk (hf gp _ _ H1.out.symm HP.out); replace HF := Aside0.mk (HF.out.fr hf); clear hr hf) | (go_at_call 14; (with_reducible refine (has_walk w0 _ g A c l _ ⟨#[98, 115]⟩ HR.out).mono ?_); rw [HBS.out]; rintro e w9 ⟨rfl, hb⟩; replace HR := Aside0.mk (HR.out.bel hb); replace HP := Aside0.mk (blk_below HP.out hb); replace HF := Aside0.mk (HF.out.below hb); clear hb))
    go_wp2_with (first | (go_at_call 27; (with_reducible refine (number_walk k w0 _ g A c l _ ⟨#[115, 107, 105, 112]⟩ 0 skip b5 HR.out HT.out E5.out).mono ?_); rintro e w9 ⟨rfl, hr, hf⟩; replace HR := Aside0.mk hr; replace HP := Aside0.mk (hf gp _ _ H1.out.symm HP.out); replace HF := Aside0.mk (HF.out.fr hf); clear hr hf) | (go_at_call 27; (with_reducible refine (number_walk k w0 _ g A c l _ ⟨#[115, 101, 101, 107]⟩ 0 seek b6 HR.out HT.out E6.out).mono ?_); rintro e w9 ⟨rfl, hr, hf⟩; replace HR := Aside0.mk hr; replace HP := Aside0.mk (hf gp _ _ H1.out.symm HP.out); replace HF := Aside0.mk (HF.out.fr hf); clear hr hf) | (go_at_call 27; (with_reducible refine (number_walk k w0 _ g A c l _ ⟨#[99, 111, 117, 110, 116]⟩ 0 count b7 HR.out HT.out E7.out).mono ?_); rintro e w9 ⟨rfl, hr, hf⟩; replace HR := Aside0.mk hr; replace HP := Aside0.mk (hf gp _ _ H1.out.symm HP.out); replace HF := Aside0.mk (HF.out.fr hf); clear hr hf) | (go_at_call 14; (with_reducible refine (has_walk w0 _ g A c l _ ⟨#[99, 111, 117, 110, 116]⟩ HR.out).mono ?_); rw [HC.out]; rintro e w9 ⟨rfl, hb⟩; replace HR := Aside0.mk (HR.out.bel hb); replace HP := Aside0.mk (blk_below HP.out hb); replace HF := Aside0.mk (HF.out.below hb); clear hb; have cc13 := (blk_cell HP.out 13).trans (show _ = some (.int .i64 p.skip) from rfl); have ff13 := blk_frozen HP.out 13; have cc14 := (blk_cell HP.out 14).trans (show _ = some (.int .i64 p.seek) from rfl); have ff14 := blk_frozen HP.out 14; have cc15 := (blk_cell HP.out 15).trans (show _ = some (.int .i64 p.count) from rfl); have ff15 := blk_frozen HP.out 15; have cc16 := (blk_cell HP.out 16).trans (show _ = some (.bool p.all) from rfl); have ff16 := blk_frozen HP.out 16))
    go_end0
    exact ⟨rfl, (RD.far (RD.far (RD.far (RD.far HR.out 13 _ H1.out HG0.out) 14 _ H1.out HG0.out) 15 _ H1.out HG0.out) 16 _ H1.out HG0.out), (blk_set (blk_set (blk_set (blk_set HP.out 13 _) 14 _) 15 _) 16 _), (Fr2.setr (Fr2.setr (Fr2.setr (Fr2.setr HF.out 13 _) 14 _) 15 _) 16 _)⟩
end Go.Proofs.YtbmhfnncagncmaaDoor.P
