/- The walks of the taker's methods put and value. No conditions. -/
import Derived.Test.YtlginoicaeonhaaDoorPx0
import Derived.Test.YtlginoicaeonhaaDoorFlB
namespace Go.Proofs.YtlginoicaeonhaaDoor.P
open Go.RowKit Go.Proofs.YtlginoicaeonhaaDoorW.PrintWords Go.Proofs.YtlginoicaeonhaaDoorW.PrintLast
set_option linter.unusedVariables false
set_option linter.unusedSimpArgs false
theorem R_apart {α β : Type} {d : Kd α} {d' : Kd β} {e e' base base' : Nat} {ok ok' : Nat → Prop} {W w1 : World} {v v' : Value} {xs : List α} {xs' : List β} (h : d.R e W base ok v xs) (h' : d'.R e' W base' ok' v' xs') (ht : ∀ q, q ∈ e :: d.E → q ≠ e') (hg : W.grownBy w1 v'.ownBlock) : d.R e w1 base ok v xs := by
  refine Kd.R_mono (Kd.R_grown (Kd.R_bound h) hg ?_) (fun k hk => hk.1)
  rintro k ⟨_, _, _, q, hq, cells, hc⟩ heq
  obtain ⟨inner, ho⟩ := Kd.R_own h'
  obtain ⟨cells', hc'⟩ := own_typed ho k heq.symm
  rw [hc] at hc'
  injection hc' with e1
  injection e1 with _ e2 _
  exact ht q hq e2
/-- The taker at block g: its flags, what is left, what came out. -/
def TK (w0 W : World) (g : Nat) (fl : List S72) (l : List ByteArray) (o : List S31) (r : List ByteArray) : Prop :=
  ∃ Af cf Al cl vo vr, W.heap[g]? = some (.cells #[.slice Af fl.length cf, .slice Al l.length cl, vo, vr] 55 (0, 0)) ∧ w0.heap.size ≤ g ∧ Kd.R k72 72 W 0 (fun _ => True) (.slice Af fl.length cf) fl ∧ (Kd.C Kd.string w0 Al l.length l ∧ l.length ≤ cl) ∧ Kd.R k31 31 W w0.heap.size (fun _ => True) vo o ∧ Kd.R Kd.string 9 W w0.heap.size (fun _ => True) vr r ∧ Below w0.heap.size w0 W
theorem TK.below {w0 W : World} {g : Nat} {fl : List S72} {l : List ByteArray} {o : List S31} {r : List ByteArray} (h : TK w0 W g fl l o r) {W1 : World} (hb : Below W.heap.size W W1) : TK w0 W1 g fl l o r := by
  obtain ⟨Af, cf, Al, cl, vo, vr, hbk, hg, hf, hl, ho, hr, hB⟩ := h
  exact ⟨Af, cf, Al, cl, vo, vr, blk_below hbk hb, hg, Kd.R_below hf hb, hl, Kd.R_below ho hb, Kd.R_below hr hb, below_step hB hb⟩
theorem TK.B {w0 W : World} {g : Nat} {fl : List S72} {l : List ByteArray} {o : List S31} {r : List ByteArray} (h : TK w0 W g fl l o r) : Below w0.heap.size w0 W := by
  obtain ⟨Af, cf, Al, cl, vo, vr, hbk, hg, hf, hl, ho, hr, hB⟩ := h
  exact hB
theorem info31t : (Tryd.prog.info? 31).map (fun i => (i.zero, i.size, i.bytes)) = some (some (.agg #[(.string ⟨#[]⟩), (.string ⟨#[]⟩)]), 2, 32) := by kernel_rfl
set_option maxHeartbeats 4000000 in
set_option maxRecDepth 100000 in
theorem put_walk (w0 W : World) (g : Nat) (fl : List S72) (l : List ByteArray) (o : List S31) (r : List ByteArray) (key val : ByteArray) (h : TK w0 W g fl l o r) (hlen : o.length < 1099511627776) :
    Calls Tryd.prog 51 #[.pointer (some ⟨g, 0, none⟩), .string key, .string val] W fun e w' => e = .returned (.tuple #[]) ∧ TK w0 w' g fl l (o ++ [⟨key, val⟩]) r ∧ ∀ (k : Nat) (cs : Array Value) (t : Nat), W.heap[k]? = some (.cells cs t (0, 0)) → 31 ≠ t → t ≠ 55 → w'.heap[k]? = some (.cells cs t (0, 0)) := by
  obtain ⟨Af, cf, Al, cl, vo, vr, hbk, hg, hf, hl, ho, hr, hB⟩ := h
  obtain ⟨Ao, co, rfl⟩ := Kd.R_slice ho
  have BK := Aside0.mk hbk
  have HG := Aside0.mk hg
  have HF := Aside0.mk hf
  have HL := Aside0.mk hl
  have HO := Aside0.mk ho
  have HR := Aside0.mk hr
  have HB := Aside0.mk hB
  clear hbk hg hf hl ho hr hB
  have hc2 : W.cell? ⟨g, 2, none⟩ = some (.slice Ao o.length co) := (blk_cell BK.out 2).trans rfl
  go_enter Tryd.func51, Tryd.ntmps51
  go_wp2_with (first
    | ((with_reducible refine gate_builtin (b := .append) (xs := #[.tmp 11, .tmp 15]) rfl ?_); at_builtin; (refine Kd.R_append k31 (w0 := w0) w0.heap.size rfl (.tmp 11) (.tmp 15) 22 31 (.agg #[(.string ⟨#[]⟩), (.string ⟨#[]⟩)]) 32 rfl Tryd.underlying22 info31t rfl (by decide) (by omega) (.slice Ao o.length co) o (⟨key, val⟩ : S31) [.string key, .string val] (fun _ => True) (fun _ => False) rfl rfl ?aP (fun _ hk => hk.elim) ?aF ?aO ?aB ?aS ?aL ?_; (case aP => exact k31_mkM _ _ _ (⟨key, val⟩ : S31)); (case aB => exact HB.out); (case aF => exact (fun _ _ => trivial)); (case aO => exact HO.out); (case aS => exact below_size HB.out); (case aL => omega); intro v1 w1 ho hb hg1 hat; obtain ⟨A1, c1, eV1⟩ := Kd.R_slice ho; subst eV1; simp only [List.length_append, List.length_cons, List.length_nil, Nat.zero_add] at ho; have KP := Aside0.mk (show ∀ (k : Nat) (cs : Array Value) (t : Nat), W.heap[k]? = some (.cells cs t (0, 0)) → 31 ≠ t → w1.heap[k]? = some (.cells cs t (0, 0)) from fun k cs t hk ht => blk_grown hk hg1 (Kd.R_ne HO.out hk ht)); replace HF := Aside0.mk (R_apart HF.out HO.out (by decide) hg1); replace HR := Aside0.mk (R_apart HR.out HO.out (by decide) hg1); replace BK := Aside0.mk (blk_grown BK.out hg1 (Kd.R_ne HO.out BK.out (by decide))); replace HO := Aside0.mk ho; replace HB := Aside0.mk hb; clear ho hb hg1 hat hc2; have hc2 : w1.cell? ⟨g, 2, none⟩ = some (.slice Ao o.length co) := (blk_cell BK.out 2).trans rfl; have hf2 := blk_frozen BK.out 2)))
  go_end0
  refine ⟨rfl, ⟨Af, cf, Al, cl, _, vr, blk_put BK.out 2 _ rfl, HG.out, Kd.R_set HF.out BK.out (by decide) _ _, HL.out, Kd.R_set HO.out BK.out (by decide) _ _, Kd.R_set HR.out BK.out (by decide) _ _, below_set HB.out HG.out⟩, fun k cs t hk h1 h2 => blk_far (KP.out k cs t hk h1) (blk_ne (KP.out k cs t hk h1) BK.out h2) _⟩
end Go.Proofs.YtlginoicaeonhaaDoor.P
