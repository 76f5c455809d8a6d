/- The walks of arg.flags' closures and of slices.IndexFunc, slices.ContainsFunc over the flags of a spec. No conditions. -/
import Derived.Test.YtlginoicaeonhaaDoorPx0
namespace Go.Proofs.YtlginoicaeonhaaDoor.P
open Go.RowKit Go.Proofs.YtlginoicaeonhaaDoorW.PrintWords Go.Proofs.YtlginoicaeonhaaDoorW.PrintLast
-- names: Kd.R_set Kd.R_types Kd.R_bound Kd.R_grown Kd.R_step Kd.R_own own_typed Kd.R_keep Kd.R_move Kd.R_reads Kd.R_reads' Kd.R_slice Kd.R_mono Kd.R_flat Kd.R_append_row Kd.R_append_rows Kd.R_append Kd.C_get Kd.at_string print_cut Kd.C_cut blk_grown blk_ne blk_set blk_far blk_put cell_far Kd.R_ne Kd.R_alloc Kd.R_nil Kd.R_below Kd.C_below R_bytes
set_option linter.unusedVariables false
set_option linter.unusedSimpArgs false
/-- Which of the flags bears the letter; -1: none. -/
def idxF (l : List S72) (c : Int) : Int := match l.findIdx? (fun f => f.f0 == c) with
  | some i => (i : Int)
  | none => -1
theorem rd72_get (l : List S72) (k : Nat) (hk : k < l.length) : rd_T72 l k = l[k] := by
  simp [rd_T72, hk]
theorem idxF_hit {l : List S72} {c : Int} {k : Nat} (hk : k < l.length) (h : (rd_T72 l k).f0 = c) (hn : ∀ j : Nat, j < k → (rd_T72 l j).f0 ≠ c) : idxF l c = k := by
  have e : l.findIdx? (fun f => f.f0 == c) = some k := by
    rw [List.findIdx?_eq_some_iff_getElem]
    refine ⟨hk, by rw [← rd72_get l k hk]; simpa using h, fun j hj => ?_⟩
    have := hn j hj
    rw [rd72_get l j (by omega)] at this
    simpa using this
  unfold idxF; rw [e]
theorem idxF_miss {l : List S72} {c : Int} (hn : ∀ j : Nat, j < l.length → (rd_T72 l j).f0 ≠ c) : idxF l c = -1 := by
  have e : l.findIdx? (fun f => f.f0 == c) = none := by
    rw [List.findIdx?_eq_none_iff]
    intro x hx
    obtain ⟨j, hj, rfl⟩ := List.getElem_of_mem hx
    have := hn j hj
    rw [rd72_get l j hj] at this
    simpa using this
  unfold idxF; rw [e]
set_option maxHeartbeats 2000000 in
theorem clos39 (c : Int) (B : Nat) (x : S72) (W : World) (hB : W.cell? ⟨B, 0, none⟩ = some (.int .u8 c)) : Calls Tryd.prog 39 (#[.agg #[.int .u8 x.f0, .bool x.f1]] ++ #[.pointer (some ⟨B, 0, none⟩)]) W fun e w' => e = .returned (.bool (x.f0 == c)) ∧ Below W.heap.size W w' := by
  have hBW : B < W.heap.size := World.block_lt_of_cell? W _ hB
  have hne : B ≠ W.heap.size := by omega
  show Calls Tryd.prog 39 #[.agg #[.int .u8 x.f0, .bool x.f1], .pointer (some ⟨B, 0, none⟩)] W _
  go_enter Tryd.func39, Tryd.ntmps39
  go_wp2
  all_goals (go_ret; exact ⟨by simp_all, below_alloc (Below.refl _ _) _⟩)
set_option maxHeartbeats 4000000 in
theorem flagIdx (g : Nat) (lb : Array Value) (c : Int) (eg : ∀ args w, (callFunc g args).run Tryd.prog w = .ok (.enter g args) w) (A : Option Addr) (cap : Nat) (l : List S72) (w : World) (hl : Kd.C k72 w A l.length l) (hbig : l.length ≤ 9223372036854775807)
    (hp : ∀ W x, Below w.heap.size w W → Calls Tryd.prog g (#[.agg #[.int .u8 (x : S72).f0, .bool x.f1]] ++ lb) W fun e w' => e = .returned (.bool (x.f0 == c)) ∧ Below W.heap.size W w') :
    Calls Tryd.prog 49 #[.slice A l.length cap, .func (.func g) #[] lb] w fun e w' => e = .returned (.int .i64 (idxF l c)) ∧ Below w.heap.size w w' := by
  have HC := Aside0.mk hl
  have HP := Aside0.mk hp
  clear hl hp
  have hn : (l.length : Int) ≤ 9223372036854775807 := by omega
  obtain ⟨n, hnn⟩ : ∃ n, n = l.length := ⟨_, rfl⟩
  have NN := Aside0.mk hnn
  rw [← hnn] at hn hbig ⊢
  clear hnn
  go_enter Tryd.func49, Tryd.ntmps49
  go_wp2
  go_loopg [5, 8] n (fun gg _ s8 wr => ∃ kk : Nat, kk ≤ n ∧ n - kk ≤ gg ∧ s8 = .int .i64 kk ∧ Aside (Below w.heap.size w wr) ∧ Aside (∀ j : Nat, j < kk → (rd_T72 l j).f0 ≠ c))
  case atStart => exact ⟨0, Nat.zero_le _, by omega, rfl, Below.refl _ w, fun j hj => absurd hj (Nat.not_lt_zero _)⟩
  case round =>
    obtain ⟨kk, hkk, hg, rfl, BW, AA⟩ := hrel
    by_cases hlt : kk < n
    · have hltz : (kk : Int) < (n : Int) := by omega
      have h0z : (0 : Int) ≤ (kk : Int) := by omega
      obtain ⟨ad, eA, c0, c1⟩ := at_T72 (Kd.C_below HC.out BW.out) (kk : Int) h0z (by rw [← NN.out]; exact hltz)
      subst eA
      simp only [Int.toNat_natCast] at c0 c1
      have hcall := HP.out wr (rd_T72 l kk) BW.out
      by_cases hq : (rd_T72 l kk).f0 = c
      · rw [show ((rd_T72 l kk).f0 == c) = true from by simpa using hq] at hcall
        have FIN := Aside0.mk (idxF_hit (by rw [← NN.out]; exact hlt) hq AA.out)
        clear hq
        go_wp2_with (go_at_fn g; refine hcall.mono ?_; rintro e w' ⟨rfl, hb'⟩)
        go_ret
        exact ⟨by rw [FIN.out]; rfl, below_step BW.out hb'⟩
      · rw [show ((rd_T72 l kk).f0 == c) = false from by simpa using hq] at hcall
        have FIN := Aside0.mk hq
        clear hq
        go_wp2_with (go_at_fn g; refine hcall.mono ?_; rintro e w' ⟨rfl, hb'⟩)
        go_roundg (n - (kk + 1))
        case measure => omega
        case rel =>
          refine ⟨kk + 1, by omega, by omega, by go_num, below_step BW.out hb', (show Aside _ from fun j hj => ?_)⟩
          by_cases e : j = kk
          · subst e; exact FIN.out
          · exact AA.out j (by omega)
    · have hltz : ¬ (kk : Int) < (n : Int) := by omega
      have hk2 : kk = n := by omega
      subst hk2
      go_wp2
      go_ret
      exact ⟨by rw [idxF_miss (fun j hj => AA.out j (by rw [NN.out]; exact hj))]; rfl, BW.out⟩
set_option maxHeartbeats 2000000 in
theorem flagHas (g : Nat) (lb : Array Value) (c : Int) (eg : ∀ args w, (callFunc g args).run Tryd.prog w = .ok (.enter g args) w) (A : Option Addr) (cap : Nat) (l : List S72) (w : World) (hl : Kd.C k72 w A l.length l) (hbig : l.length ≤ 9223372036854775807)
    (hp : ∀ W x, Below w.heap.size w W → Calls Tryd.prog g (#[.agg #[.int .u8 (x : S72).f0, .bool x.f1]] ++ lb) W fun e w' => e = .returned (.bool (x.f0 == c)) ∧ Below W.heap.size W w') :
    Calls Tryd.prog 38 #[.slice A l.length cap, .func (.func g) #[] lb] w fun e w' => e = .returned (.bool (decide (0 ≤ idxF l c))) ∧ Below w.heap.size w w' := by
  have hcall := flagIdx g lb c eg A cap l w hl hbig hp
  clear hl hp
  go_enter Tryd.func38, Tryd.ntmps38
  go_wp2_with (go_at_call 49; refine hcall.mono ?_; rintro e w' ⟨rfl, hb'⟩)
  go_ret
  exact ⟨rfl, hb'⟩
end Go.Proofs.YtlginoicaeonhaaDoor.P
