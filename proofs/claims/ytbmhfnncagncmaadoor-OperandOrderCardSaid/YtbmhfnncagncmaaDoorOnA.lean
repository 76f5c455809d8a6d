/- The walk of arg.Only: are all options' keys among these? With its closure, slices.Contains, slices.IndexFunc. No conditions. -/
import Derived.Test.YtbmhfnncagncmaaDoorPx0
namespace Go.Proofs.YtbmhfnncagncmaaDoor.P
open Go.RowKit Go.Proofs.YtbmhfnncagncmaaDoorW.PrintWords Go.Proofs.YtbmhfnncagncmaaDoorW.PrintLast
-- names: Kd.at_string at_T60 Kd.C_below Kd.C_get
set_option linter.unusedVariables false
set_option linter.unusedSimpArgs false
/-- Is the text among these? -/
def inS (keys : List ByteArray) (x : ByteArray) : Bool := keys.any fun k => k.toList == x.toList
theorem rdOf_gt (l : List ByteArray) (k : Nat) (hk : k < l.length) : rdOf ByteArray.empty l (k : Int) = l[k] := by simp [rdOf, hk]
theorem inS_hit {keys : List ByteArray} {x : ByteArray} {k : Nat} (hk : k < keys.length) (h : (rdOf ByteArray.empty keys (k : Int)).toList = x.toList) : inS keys x = true := by
  rw [rdOf_gt keys k hk] at h
  exact List.any_eq_true.2 ⟨_, List.getElem_mem hk, by simpa using h⟩
theorem inS_miss {keys : List ByteArray} {x : ByteArray} (h : ∀ j : Nat, j < keys.length → (rdOf ByteArray.empty keys (j : Int)).toList ≠ x.toList) : inS keys x = false := by
  unfold inS
  rw [List.any_eq_false]
  intro k hk
  obtain ⟨j, hj, rfl⟩ := List.getElem_of_mem hk
  have := h j hj
  rw [rdOf_gt keys j hj] at this
  simpa using this
set_option maxHeartbeats 4000000 in
theorem idxS (A : Option Addr) (cap : Nat) (keys : List ByteArray) (x : ByteArray) (w : World) (hl : Kd.C Kd.string w A keys.length keys) (hbig : keys.length ≤ 9223372036854775807) :
    Calls Tryd.prog 39 #[.slice A keys.length cap, .string x] w fun e w' => (∃ i : Int, e = .returned (.int .i64 i) ∧ (decide (0 ≤ i)) = inS keys x) ∧ w = w' := by
  have HC := Aside0.mk hl
  clear hl
  have hn : (keys.length : Int) ≤ 9223372036854775807 := by omega
  obtain ⟨n, hnn⟩ : ∃ n, n = keys.length := ⟨_, rfl⟩
  have NN := Aside0.mk hnn
  rw [← hnn] at hn hbig ⊢
  clear hnn
  go_enter Tryd.func39, Tryd.ntmps39
  go_wp2
  go_loop [5, 8] (fun s5 s8 => ∃ kk : Nat, kk ≤ n ∧ s8 = .int .i64 kk ∧ Aside0 (∀ j : Nat, j < kk → (rdOf ByteArray.empty keys (j : Int)).toList ≠ x.toList)) (fun _ s8 => n - (intOf s8).toNat)
  case atStart => exact ⟨0, Nat.zero_le _, rfl, ⟨fun j hj => absurd hj (Nat.not_lt_zero _)⟩⟩
  case round =>
    obtain ⟨kk, hkk, rfl, AA⟩ := hrel
    by_cases hlt : kk < n
    · have hltz : (kk : Int) < (n : Int) := by omega
      have h0z : (0 : Int) ≤ (kk : Int) := by omega
      obtain ⟨ad, eA, c0⟩ := Kd.at_string HC.out (kk : Int) h0z (by rw [← NN.out]; exact hltz)
      subst eA
      simp only [Int.toNat_natCast] at c0
      by_cases hq : (rdOf ByteArray.empty keys (kk : Int)).toList = x.toList
      · have FIN := Aside0.mk (inS_hit (by rw [← NN.out]; exact hlt) hq)
        have b0 : (x.toList == (rdOf ByteArray.empty keys (kk : Int)).toList) = true := by simpa using hq.symm
        clear hq
        go_wp2
        go_ret
        exact ⟨⟨_, rfl, by rw [FIN.out]; exact decide_eq_true h0z⟩, rfl⟩
      · have FIN := Aside0.mk hq
        have b0 : (x.toList == (rdOf ByteArray.empty keys (kk : Int)).toList) = false := by simpa using fun e => hq e.symm
        clear hq
        go_wp2
        go_round
        case rel =>
          refine ⟨kk + 1, by omega, by go_num, ⟨fun j hj => ?_⟩⟩
          by_cases e : j = kk
          · subst e; exact FIN.out
          · exact AA.out j (by omega)
        case measure => simp [intOf]; omega
    · have hltz : ¬ (kk : Int) < (n : Int) := by omega
      have hk2 : kk = n := by omega
      subst hk2
      go_wp2
      go_ret
      exact ⟨⟨_, rfl, by rw [inS_miss (fun j hj => AA.out j (by rw [NN.out]; exact hj))]; rfl⟩, rfl⟩
set_option maxHeartbeats 2000000 in
theorem contS (A : Option Addr) (cap : Nat) (keys : List ByteArray) (x : ByteArray) (w : World) (hl : Kd.C Kd.string w A keys.length keys) (hbig : keys.length ≤ 9223372036854775807) :
    Calls Tryd.prog 24 #[.slice A keys.length cap, .string x] w fun e w' => e = .returned (.bool (inS keys x)) ∧ w = w' := by
  have hc := idxS A cap keys x w hl hbig
  clear hl
  go_enter Tryd.func24, Tryd.ntmps24
  go_wp2_with (go_at_call 39; refine hc.mono ?_; rintro e w' ⟨⟨i, rfl, hi⟩, rfl⟩; have HI := Aside0.mk hi; clear hi)
  go_ret
  exact ⟨by rw [← HI.out]; rfl, rfl⟩
set_option maxHeartbeats 2000000 in
theorem clos35 (keys : List ByteArray) (A : Option Addr) (cap B : Nat) (x : S60) (W : World) (hB : W.cell? ⟨B, 0, none⟩ = some (.slice A keys.length cap)) (hk : Kd.C Kd.string W A keys.length keys) (hbig : keys.length ≤ 9223372036854775807) :
    Calls Tryd.prog 23 (#[.agg #[.string x.f0, .string x.f1]] ++ #[.pointer (some ⟨B, 0, none⟩)]) W fun e w' => e = .returned (.bool (!inS keys x.f0)) ∧ Below W.heap.size W w' := by
  have hBW : B < W.heap.size := World.block_lt_of_cell? W _ hB
  have hne : B ≠ W.heap.size := by omega
  have HK := Aside0.mk hk
  clear hk
  have HB := Aside0.mk (Below.refl W.heap.size W)
  show Calls Tryd.prog 23 #[.agg #[.string x.f0, .string x.f1], .pointer (some ⟨B, 0, none⟩)] W _
  go_enter Tryd.func23, Tryd.ntmps23
  go_wp2_with (go_at_call 24; refine (contS A cap keys x.f0 _ (cb_ HK HB) hbig).mono ?_; rintro e w' ⟨rfl, rfl⟩)
  go_ret
  exact ⟨rfl, bh_ HB⟩
/-- Which option's key is not among these; -1: none. -/
def outF (keys : List ByteArray) (l : List S60) : Bool := l.any fun o => !inS keys o.f0
theorem rd60_get (l : List S60) (k : Nat) (hk : k < l.length) : rd_T60 l k = l[k] := by simp [rd_T60, hk]
theorem outF_hit {keys : List ByteArray} {l : List S60} {k : Nat} (hk : k < l.length) (h : inS keys (rd_T60 l k).f0 = false) : outF keys l = true := by
  rw [rd60_get l k hk] at h
  exact List.any_eq_true.2 ⟨_, List.getElem_mem hk, by simpa using h⟩
theorem outF_miss {keys : List ByteArray} {l : List S60} (h : ∀ j : Nat, j < l.length → inS keys (rd_T60 l j).f0 = true) : outF keys l = false := by
  unfold outF
  rw [List.any_eq_false]
  intro o ho
  obtain ⟨j, hj, rfl⟩ := List.getElem_of_mem ho
  have := h j hj
  rw [rd60_get l j hj] at this
  simpa using this
set_option maxHeartbeats 4000000 in
theorem optIdx (lb : Array Value) (keys : List ByteArray) (eg : ∀ args w, (callFunc 23 args).run Tryd.prog w = .ok (.enter 23 args) w) (A : Option Addr) (cap : Nat) (l : List S60) (w : World) (hl : Kd.C k60 w A l.length l) (hbig : l.length ≤ 9223372036854775807)
    (hp : ∀ W x, Below w.heap.size w W → Calls Tryd.prog 23 (#[.agg #[.string (x : S60).f0, .string x.f1]] ++ lb) W fun e w' => e = .returned (.bool (!inS keys x.f0)) ∧ Below W.heap.size W w') :
    Calls Tryd.prog 38 #[.slice A l.length cap, .func (.func 23) #[] lb] w fun e w' => (∃ i : Int, e = .returned (.int .i64 i) ∧ (decide (0 ≤ i)) = outF keys l) ∧ Below w.heap.size w w' := by
  have HC := Aside0.mk hl
  have HP := Aside0.mk hp
  clear hl hp
  have hn : (l.length : Int) ≤ 9223372036854775807 := by omega
  obtain ⟨n, hnn⟩ : ∃ n, n = l.length := ⟨_, rfl⟩
  have NN := Aside0.mk hnn
  rw [← hnn] at hn hbig ⊢
  clear hnn
  go_enter Tryd.func38, Tryd.ntmps38
  go_wp2
  go_loopg [5, 8] n (fun gg _ s8 wr => ∃ kk : Nat, kk ≤ n ∧ n - kk ≤ gg ∧ s8 = .int .i64 kk ∧ Aside (Below w.heap.size w wr) ∧ Aside (∀ j : Nat, j < kk → inS keys (rd_T60 l j).f0 = true))
  case atStart => exact ⟨0, Nat.zero_le _, by omega, rfl, Below.refl _ w, fun j hj => absurd hj (Nat.not_lt_zero _)⟩
  case round =>
    obtain ⟨kk, hkk, hg, rfl, BW, AA⟩ := hrel
    by_cases hlt : kk < n
    · have hltz : (kk : Int) < (n : Int) := by omega
      have h0z : (0 : Int) ≤ (kk : Int) := by omega
      obtain ⟨ad, eA, c0, c1⟩ := at_T60 (Kd.C_below HC.out BW.out) (kk : Int) h0z (by rw [← NN.out]; exact hltz)
      subst eA
      simp only [Int.toNat_natCast] at c0 c1
      have hcall := HP.out wr (rd_T60 l kk) BW.out
      cases hq : inS keys (rd_T60 l kk).f0 with
      | false =>
        rw [hq] at hcall
        have FIN := Aside0.mk (outF_hit (by rw [← NN.out]; exact hlt) hq)
        clear hq
        go_wp2_with (go_at_fn 23; refine hcall.mono ?_; rintro e w' ⟨rfl, hb'⟩)
        go_ret
        exact ⟨⟨_, rfl, by rw [FIN.out]; exact decide_eq_true h0z⟩, below_step BW.out hb'⟩
      | true =>
        rw [hq] at hcall
        have FIN := Aside0.mk hq
        clear hq
        go_wp2_with (go_at_fn 23; refine hcall.mono ?_; rintro e w' ⟨rfl, hb'⟩)
        go_roundg (n - (kk + 1))
        case measure => omega
        case rel =>
          refine ⟨kk + 1, by omega, by omega, by go_num, below_step BW.out hb', (show Aside _ from fun j hj => ?_)⟩
          by_cases e : j = kk
          · subst e; exact FIN.out
          · exact AA.out j (by omega)
    · have hltz : ¬ (kk : Int) < (n : Int) := by omega
      have hk2 : kk = n := by omega
      subst hk2
      go_wp2
      go_ret
      exact ⟨⟨_, rfl, by rw [outF_miss (fun j hj => AA.out j (by rw [NN.out]; exact hj))]; rfl⟩, BW.out⟩
set_option maxHeartbeats 2000000 in
theorem optHas (lb : Array Value) (keys : List ByteArray) (eg : ∀ args w, (callFunc 23 args).run Tryd.prog w = .ok (.enter 23 args) w) (A : Option Addr) (cap : Nat) (l : List S60) (w : World) (hl : Kd.C k60 w A l.length l) (hbig : l.length ≤ 9223372036854775807)
    (hp : ∀ W x, Below w.heap.size w W → Calls Tryd.prog 23 (#[.agg #[.string (x : S60).f0, .string x.f1]] ++ lb) W fun e w' => e = .returned (.bool (!inS keys x.f0)) ∧ Below W.heap.size W w') :
    Calls Tryd.prog 22 #[.slice A l.length cap, .func (.func 23) #[] lb] w fun e w' => e = .returned (.bool (outF keys l)) ∧ Below w.heap.size w w' := by
  have hcall := optIdx lb keys eg A cap l w hl hbig hp
  clear hl hp
  go_enter Tryd.func22, Tryd.ntmps22
  go_wp2_with (go_at_call 38; refine hcall.mono ?_; rintro e w' ⟨⟨i, rfl, hi⟩, hb'⟩; have HI := Aside0.mk hi; clear hi)
  go_ret
  exact ⟨by rw [← HI.out]; rfl, hb'⟩
set_option maxHeartbeats 2000000 in
/-- arg.Only. -/
theorem only_walk (A0 : Option Addr) (c0 : Nat) (l0 : List S60) (A1 : Option Addr) (c1 : Nat) (l1 : List ByteArray) (w : World) (hr0 : Kd.C k60 w A0 l0.length l0) (hr1 : Kd.C Kd.string w A1 l1.length l1) (h0 : l0.length ≤ 9223372036854775807) (h1 : l1.length ≤ 9223372036854775807) :
    Calls Tryd.prog 9 #[.slice A0 l0.length c0, .slice A1 l1.length c1] w fun e w' => e = .returned (.bool (!outF l1 l0)) ∧ Below w.heap.size w w' := by
  have HR0 := Aside0.mk hr0
  have HR1 := Aside0.mk hr1
  clear hr0 hr1
  have HB := Aside0.mk (Below.refl w.heap.size w)
  have eg35 : ∀ args w, (callFunc 23 args).run Tryd.prog w = .ok (.enter 23 args) w := enters_of Tryd.func23 (by kernel_rfl) rfl
  have hmf : ∀ (fn : Fn) (first cap : Array Value) (w : World), (Instr.makeFunc fn first cap).run Tryd.prog w = .ok (.func fn first cap) w := fun _ _ _ _ => rfl
  go_enter Tryd.func9, Tryd.ntmps9
  go_wp2_with (first
    | ((with_reducible refine gate_dst (N := 3) rfl ?_); refine box_e 3 #[.slice A1 l1.length c1] 33 ?_; intro g hg w1 hbox hb; have BK := Aside0.mk hbox; have GE := bg_ HB hg; replace HB := bs_ HB hb; clear hb hbox hg)
    | (go_at_call 22; (with_reducible refine (optHas #[.pointer (some ⟨g, 0, none⟩)] l1 eg35 _ _ l0 _ (cb_ HR0 HB) h0 ?sh).mono ?_); (case sh => intro W x hb; exact clos35 l1 A1 c1 g x W ((blk_cell (blk_below BK.out hb) 0).trans rfl) (Kd.C_below (cb_ HR1 HB) hb) h1); rintro e w3 ⟨rfl, hb⟩; replace HB := bs_ HB hb; clear hb))
  go_ret
  exact ⟨rfl, HB.out⟩
end Go.Proofs.YtbmhfnncagncmaaDoor.P
