/- The walk of the taker's method value. No conditions. -/
import Derived.Test.YtlginoicaeonhaaDoorPx0
import Derived.Test.YtlginoicaeonhaaDoorFlC
namespace Go.Proofs.YtlginoicaeonhaaDoor.P
open Go.RowKit Go.Proofs.YtlginoicaeonhaaDoorW.PrintWords Go.Proofs.YtlginoicaeonhaaDoorW.PrintLast
set_option linter.unusedVariables false
set_option linter.unusedSimpArgs false
theorem info9t : (Tryd.prog.info? 9).map (fun i => (i.zero, i.size, i.bytes)) = some (some (.string ⟨#[]⟩), 1, 16) := by kernel_rfl
theorem cut1 (A : Option Addr) (c : Nat) (x : ByteArray) (l : List ByteArray) (hc : l.length + 1 ≤ c) : ∃ A' : Option Addr, (∀ W : World, (Instr.slice 23 (.slice A (l.length + 1) c) (some (.int .i64 1)) none none).run Tryd.prog W = .ok (.slice A' l.length (c - 1)) W) ∧ ∀ w, Kd.C Kd.string w A (l.length + 1) (x :: l) → Kd.C Kd.string w A' l.length l := by
  obtain ⟨i, hi, hz⟩ := Option.map_eq_some_iff.1 info9t
  have hsz : i.size = 1 := by injection hz with _ hz; injection hz
  obtain ⟨A', h1, h2⟩ := print_cut_of (P := Tryd.prog) Value.string ByteArray.empty 23 9 .i64 Tryd.underlying23 hi hsz A (l.length + 1) c 1 (by omega)
  refine ⟨A', h1, fun w h => Kd.C_of_reads (h1 := fun _ => rfl) (d := ByteArray.empty) (h2 w (x :: l) hc (Kd.reads_of_C h))⟩
/-- A flag's value: what stands behind it, or the next argument. -/
def valueT (l : List ByteArray) (o : List S31) (key behind : ByteArray) : Option (List ByteArray × List S31) :=
  if behind.toList = [] then match l with
    | [] => none
    | b :: l' => some (l', o ++ [⟨key, b⟩])
  else some (l, o ++ [⟨key, behind⟩])
def ValueP (w0 : World) (g : Nat) (fl : List S72) (r : List ByteArray) (e : Ending) (w' : World) : Option (List ByteArray × List S31) → Prop
  | none => e = .returned (.bool false) ∧ Below w0.heap.size w0 w'
  | some x => e = .returned (.bool true) ∧ TK w0 w' g fl x.1 x.2 r
/-- Rows of other types stand. -/
def KeepT (W w' : World) : Prop := ∀ (k : Nat) (cs : Array Value) (t : Nat), W.heap[k]? = some (.cells cs t (0, 0)) → 31 ≠ t → t ≠ 55 → w'.heap[k]? = some (.cells cs t (0, 0))
set_option maxHeartbeats 4000000 in
set_option maxRecDepth 100000 in
theorem value_walk (w0 W : World) (g : Nat) (fl : List S72) (l : List ByteArray) (o : List S31) (r : List ByteArray) (key behind : ByteArray) (h : TK w0 W g fl l o r) (hlen : o.length < 1099511627776) :
    Calls Tryd.prog 53 #[.pointer (some ⟨g, 0, none⟩), .string key, .string behind] W fun e w' => ValueP w0 g fl r e w' (valueT l o key behind) ∧ KeepT W w' := by
  have HT := Aside0.mk h
  unfold valueT
  by_cases hbe : behind.toList = []
  · rw [if_pos hbe]
    have p1 := eq_true hbe
    obtain ⟨Af, cf, Al, cl, vo, vr, hbk, hg, hf, ⟨hl, hcl⟩, ho, hr, hB⟩ := h
    have BK := Aside0.mk hbk
    have HG := Aside0.mk hg
    have HF := Aside0.mk hf
    have HL := Aside0.mk hl
    have HO := Aside0.mk ho
    have HR := Aside0.mk hr
    have HB := Aside0.mk hB
    clear hbk hg hf hl ho hr hB
    cases l with
    | nil =>
      have hc1 : W.cell? ⟨g, 1, none⟩ = some (.slice Al 0 cl) := (blk_cell BK.out 1).trans rfl
      go_enter Tryd.func53, Tryd.ntmps53
      go_wp2
      go_ret
      exact ⟨⟨rfl, HB.out⟩, fun _ _ _ h _ _ => h⟩
    | cons b l' =>
      have hcl' : l'.length + 1 ≤ cl := hcl
      obtain ⟨A', hcut, hC⟩ := cut1 Al cl b l' hcl
      have hc1 : W.cell? ⟨g, 1, none⟩ = some (.slice Al (l'.length + 1) cl) := (blk_cell BK.out 1).trans rfl
      have hf1 := blk_frozen BK.out 1
      obtain ⟨ad, eA, hcb⟩ := Kd.at_string (Kd.C_below HL.out HB.out) 0 (by omega) (by simp only [List.length_cons]; omega)
      have hcb2 : W.cell? ad = some (.string b) := hcb
      subst eA
      clear hcb
      have hgt := eq_false (show ¬ (l'.length : Int) + 1 = 0 from by omega)
      have hgp := eq_true (show (0 : Int) < (l'.length : Int) + 1 from by omega)
      go_enter Tryd.func53, Tryd.ntmps53
      go_wp2
      go_region
      have hT2 := Aside0.mk (show TK w0 (W.setCell ⟨g, 1, none⟩ (.slice A' l'.length (cl - 1))).drew g fl l' o r from ⟨Af, cf, A', cl - 1, vo, vr, blk_drew (blk_put BK.out 1 _ rfl), HG.out, Kd.R_drew (Kd.R_set HF.out BK.out (by decide) _ _), ⟨hC w0 HL.out, by omega⟩, Kd.R_drew (Kd.R_set HO.out BK.out (by decide) _ _), Kd.R_drew (Kd.R_set HR.out BK.out (by decide) _ _), below_drew (below_set HB.out HG.out)⟩)
      have HK2 := Aside0.mk (show ∀ (k : Nat) (cs : Array Value) (t : Nat), W.heap[k]? = some (.cells cs t (0, 0)) → t ≠ 55 → (W.setCell ⟨g, 1, none⟩ (.slice A' l'.length (cl - 1))).drew.heap[k]? = some (.cells cs t (0, 0)) from fun k cs t hk h55 => blk_drew (blk_far (p := ⟨g, 1, none⟩) hk (blk_ne hk BK.out h55) _))
      clear hf1 hc1 hcb2 HF HO HR HB BK
      generalize (W.setCell ⟨g, 1, none⟩ (.slice A' l'.length (cl - 1))).drew = W2 at hT2 HK2 ⊢
      go_wp2_with (first | (go_at_call 51; refine (put_walk w0 W2 g fl l' o r key b hT2.out hlen).mono ?_; rintro e w1 ⟨rfl, h1, hk1⟩))
      go_ret
      exact ⟨⟨rfl, h1⟩, fun k cs t hk h31 h55 => hk1 k cs t (HK2.out k cs t hk h55) h31 h55⟩
  · rw [if_neg hbe]
    have p1 := eq_false hbe
    have p2 : behind.toList.isEmpty = false := by cases hx : behind.toList with | nil => exact absurd hx hbe | cons _ _ => rfl
    clear h
    go_enter Tryd.func53, Tryd.ntmps53
    go_wp2_with (first | (go_at_call 51; refine (put_walk w0 W g fl l o r key behind HT.out hlen).mono ?_; rintro e w1 ⟨rfl, h1, hk1⟩))
    go_ret
    exact ⟨⟨rfl, h1⟩, hk1⟩
end Go.Proofs.YtlginoicaeonhaaDoor.P
