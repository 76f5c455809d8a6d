/- The walks of the taker's methods long and one. No conditions. -/
import Derived.Test.YtlginoicaeonhaaDoorPx0
import Derived.Test.YtlginoicaeonhaaDoorPx2
import Derived.Test.YtlginoicaeonhaaDoorPx5
import Derived.Test.YtlginoicaeonhaaDoorFlE
namespace Go.Proofs.YtlginoicaeonhaaDoor.P
open Go.RowKit Go.Proofs.YtlginoicaeonhaaDoorW.PrintWords Go.Proofs.YtlginoicaeonhaaDoorW.PrintLast
set_option linter.unusedVariables false
set_option linter.unusedSimpArgs false
def cutK (s : ByteArray) : ByteArray := ⟨(Lib.cut s.data.toList [61]).1.toArray⟩
def cutV (s : ByteArray) : ByteArray := ⟨(Lib.cut s.data.toList [61]).2.1.toArray⟩
theorem cutK_size (s : ByteArray) : (cutK s).size ≤ s.size := by
  unfold cutK Lib.cut
  split
  · show (List.toArray _).size ≤ s.data.size
    rw [List.size_toArray, List.length_take]
    have : s.data.toList.length = s.data.size := Array.length_toList
    omega
  · exact Nat.le_of_eq (by show (List.toArray _).size = s.data.size; simp)
def keyB (s : ByteArray) : Bool := (arg_key.f (s.size + 1) s).getD false
theorem key_some (s : ByteArray) (hs : s.size < 4611686018427387904) : ∀ n i : Nat, s.size - i < n → i ≤ s.size → (arg_key.l0 n s s.size (i : Int)).isSome = true
  | 0, i, h, _ => by omega
  | n + 1, i, h, hi => by
    unfold arg_key.l0
    by_cases hlt : i < s.size
    · rw [if_pos (by omega), if_pos (by omega), if_pos (by omega)]
      have ih := key_some s hs n (i + 1) (by omega) (by omega)
      rw [show wrap64 ((i : Int) + 1) = ((i + 1 : Nat) : Int) from by unfold wrap64; omega]
      unfold arg_small.f
      by_cases h1 : bt s i ≥ 97
      · rw [if_pos h1]
        simp only [Option.bind_some]
        split
        · exact ih
        · rfl
      · rw [if_neg h1]; rfl
    · rw [if_neg (by omega)]
      split <;> rfl
theorem key_eq (s : ByteArray) (hs : s.size < 4611686018427387904) : arg_key.f (s.size + 1) s = some (keyB s) := by
  have h := key_some s hs (s.size + 1) 0 (by omega) (by omega)
  unfold keyB
  have h2 : (arg_key.f (s.size + 1) s).isSome = true := h
  obtain ⟨b, hb⟩ := Option.isSome_iff_exists.1 h2
  rw [hb]; rfl
/-- A long option. -/
def longT (l : List ByteArray) (o : List S31) (s : ByteArray) : Option (List ByteArray × List S31) := if keyB (cutK s) = true then some (l, o ++ [⟨cutK s, cutV s⟩]) else none
set_option maxHeartbeats 4000000 in
set_option maxRecDepth 100000 in
theorem long_walk (w0 W : World) (g : Nat) (fl : List S72) (l : List ByteArray) (o : List S31) (r : List ByteArray) (s : ByteArray) (htab : TabAt w0) (h : TK w0 W g fl l o r) (hs : s.size < 4294967281) (hlen : o.length < 1099511627776) :
    Calls Tryd.prog 41 #[.pointer (some ⟨g, 0, none⟩), .string s] W fun e w' => ValueP w0 g fl r e w' (longT l o s) := by
  have HTAB := Aside0.mk htab
  have HT := Aside0.mk h
  clear h htab
  have HCUT := Aside0.mk (show strings_Cut.f s ⟨#[61]⟩ = some (cutK s, cutV s, (Lib.cut s.data.toList [61]).2.2) from by unfold strings_Cut.f; rw [if_pos hs]; rfl)
  have HKEY := Aside0.mk (key_eq (cutK s) (by have := cutK_size s; omega))
  unfold longT
  generalize (Lib.cut s.data.toList [61]).2.2 = has at HCUT
  generalize cutK s = ck at HCUT HKEY ⊢
  generalize cutV s = cv at HCUT ⊢
  cases hk : keyB ck with
  | true =>
    rw [hk] at HKEY
    rw [if_pos rfl]
    go_enter Tryd.func41, Tryd.ntmps41
    go_wp2_with (first
      | (go_at_call 25; refine (strings_Cut.calls s ⟨#[61]⟩ ck cv has _ HCUT.out (HTAB.out.below HT.out.B)).mono ?_; rintro e w1 ⟨rfl, hd⟩; replace HT := Aside0.mk (HT.out.below (d0b hd)); clear hd)
      | (go_at_call 26; refine (arg_key.calls _ ck true _ HKEY.out).mono ?_; rintro e w2 ⟨rfl, hd⟩; replace HT := Aside0.mk (HT.out.below (d0b hd)); clear hd)
      | (go_at_call 51; refine (put_walk w0 _ g fl l o r ck cv HT.out hlen).mono ?_; rintro e w3 ⟨rfl, h1, hk1⟩))
    go_ret
    exact ⟨rfl, h1⟩
  | false =>
    rw [hk] at HKEY
    rw [if_neg (by simp)]
    go_enter Tryd.func41, Tryd.ntmps41
    go_wp2_with (first
      | (go_at_call 25; refine (strings_Cut.calls s ⟨#[61]⟩ ck cv has _ HCUT.out (HTAB.out.below HT.out.B)).mono ?_; rintro e w1 ⟨rfl, hd⟩; replace HT := Aside0.mk (HT.out.below (d0b hd)); clear hd)
      | (go_at_call 26; refine (arg_key.calls _ ck false _ HKEY.out).mono ?_; rintro e w2 ⟨rfl, hd⟩; replace HT := Aside0.mk (HT.out.below (d0b hd)); clear hd))
    go_ret
    exact ⟨rfl, HT.out.B⟩
def pre2 (s : ByteArray) : ByteArray := ⟨(Lib.trimPrefix s.data.toList [45, 45]).toArray⟩
def pre1 (s : ByteArray) : ByteArray := ⟨(Lib.trimPrefix s.data.toList [45]).toArray⟩
/-- One argument. -/
def oneT (fl : List S72) (l : List ByteArray) (o : List S31) (r : List ByteArray) (s : ByteArray) : Option (List ByteArray × List S31 × List ByteArray) :=
  if Lib.hasPrefix s.data.toList [45, 45] = true then (longT l o (pre2 s)).map fun x => (x.1, x.2, r)
  else if Lib.hasPrefix s.data.toList [45] = true ∧ ¬ (pre1 s).toList = [] then (shortT fl (pre1 s) (pre1 s).size 0 l o).map fun x => (x.1, x.2, r)
  else some (l, o, r ++ [s])
def OneP (w0 : World) (g : Nat) (fl : List S72) (e : Ending) (w' : World) : Option (List ByteArray × List S31 × List ByteArray) → Prop
  | none => e = .returned (.bool false) ∧ Below w0.heap.size w0 w'
  | some x => e = .returned (.bool true) ∧ TK w0 w' g fl x.1 x.2.1 x.2.2
theorem trim_size (s : ByteArray) (p : List UInt8) : (⟨(Lib.trimPrefix s.data.toList p).toArray⟩ : ByteArray).size ≤ s.size := by
  show (List.toArray _).size ≤ s.data.size
  rw [List.size_toArray]
  have : s.data.toList.length = s.data.size := Array.length_toList
  unfold Lib.trimPrefix
  split
  · rw [List.length_drop]; omega
  · omega
set_option maxHeartbeats 4000000 in
set_option maxRecDepth 100000 in
theorem one_walk (w0 W : World) (g : Nat) (fl : List S72) (l : List ByteArray) (o : List S31) (r : List ByteArray) (s : ByteArray) (htab : TabAt w0) (h : TK w0 W g fl l o r) (hs : s.size < 4294967281) (hfl : fl.length < 4294967296) (hlen : o.length + s.size < 1099511627776) (hrl : r.length < 1099511627776) :
    Calls Tryd.prog 24 #[.pointer (some ⟨g, 0, none⟩), .string s] W fun e w' => OneP w0 g fl e w' (oneT fl l o r s) := by
  have HTAB := Aside0.mk htab
  have HT := Aside0.mk h
  clear h htab
  have HC2 := Aside0.mk (show strings_CutPrefix.f s ⟨#[45, 45]⟩ = some (pre2 s, Lib.hasPrefix s.data.toList [45, 45]) from rfl)
  have HC1 := Aside0.mk (show strings_CutPrefix.f s ⟨#[45]⟩ = some (pre1 s, Lib.hasPrefix s.data.toList [45]) from rfl)
  have s2 : (pre2 s).size ≤ s.size := trim_size s _
  have s1 : (pre1 s).size ≤ s.size := trim_size s _
  unfold oneT
  generalize Lib.hasPrefix s.data.toList [45, 45] = b2 at HC2 ⊢
  generalize Lib.hasPrefix s.data.toList [45] = b1 at HC1 ⊢
  generalize pre2 s = p2 at HC2 s2 ⊢
  generalize pre1 s = p1 at HC1 s1 ⊢
  cases b2 with
  | true =>
    rw [if_pos rfl]
    cases hv : longT l o p2 with
    | none =>
      go_enter Tryd.func24, Tryd.ntmps24
      go_wp2_with (first
        | (go_at_call 40; (with_reducible refine (strings_CutPrefix.calls s ⟨#[45, 45]⟩ p2 true _ HC2.out).mono ?_); rintro e w5 ⟨rfl, hd⟩; replace HT := Aside0.mk (HT.out.below (d0b hd)); clear hd)
        | (go_at_call 41; refine (long_walk w0 _ g fl l o r p2 HTAB.out HT.out (by omega) (by omega)).mono ?_; rintro e w7 hP; rw [hv] at hP; obtain ⟨rfl, h1⟩ := hP))
      go_ret
      exact ⟨rfl, h1⟩
    | some x =>
      go_enter Tryd.func24, Tryd.ntmps24
      go_wp2_with (first
        | (go_at_call 40; (with_reducible refine (strings_CutPrefix.calls s ⟨#[45, 45]⟩ p2 true _ HC2.out).mono ?_); rintro e w5 ⟨rfl, hd⟩; replace HT := Aside0.mk (HT.out.below (d0b hd)); clear hd)
        | (go_at_call 41; refine (long_walk w0 _ g fl l o r p2 HTAB.out HT.out (by omega) (by omega)).mono ?_; rintro e w7 hP; rw [hv] at hP; obtain ⟨rfl, h1⟩ := hP))
      go_ret
      exact ⟨rfl, h1⟩
  | false =>
    rw [if_neg (by simp)]
    cases b1 with
    | true =>
      by_cases he : p1.toList = []
      · rw [if_neg (by simp [he])]
        have p3 := eq_true he
        have p4 : p1.toList.isEmpty = true := by rw [he]; rfl
        go_enter Tryd.func24, Tryd.ntmps24
        go_wp2_with (first
          | (go_at_call 40; (with_reducible refine (strings_CutPrefix.calls s ⟨#[45, 45]⟩ p2 false _ HC2.out).mono ?_); rintro e w5 ⟨rfl, hd⟩; replace HT := Aside0.mk (HT.out.below (d0b hd)); clear hd)
          | (go_at_call 40; (with_reducible refine (strings_CutPrefix.calls s ⟨#[45]⟩ p1 true _ HC1.out).mono ?_); rintro e W6 ⟨rfl, hd⟩; replace HT := Aside0.mk (HT.out.below (d0b hd)); clear hd; obtain ⟨Af, cf, Al, cl, vo, vr, hbk, hg, hf, hl, ho, hr, hB⟩ := HT.out; obtain ⟨Ar, cr, eVr⟩ := Kd.R_slice hr; subst eVr; have BK := Aside0.mk hbk; have HG := Aside0.mk hg; have HF := Aside0.mk hf; have HL := Aside0.mk hl; have HO := Aside0.mk ho; have HR := Aside0.mk hr; have HB := Aside0.mk hB; clear hbk hg hf hl ho hr hB; have hc3 : W6.cell? ⟨g, 3, none⟩ = some (.slice Ar r.length cr) := (blk_cell BK.out 3).trans rfl)
          | ((with_reducible refine gate_builtin (b := .append) (xs := #[.tmp 36, .tmp 38]) rfl ?_); at_builtin; refine Kd.R_append Kd.string (w0 := w0) w0.heap.size rfl (.tmp 36) (.tmp 38) 23 9 (.string ⟨#[]⟩) 16 rfl Tryd.underlying23 info9t rfl (by decide) (by omega) (.slice Ar r.length cr) r s [.string s] (fun _ => True) (fun _ => False) rfl rfl ?aP (fun _ hk => hk.elim) ?aF ?aO ?aB ?aS ?aL ?_; (case aP => rfl); (case aB => exact HB.out); (case aF => exact (fun _ _ => trivial)); (case aO => exact HR.out); (case aS => exact below_size HB.out); (case aL => omega); intro v1 w9 ho hb hg1 hat; obtain ⟨A1, c1, eV1⟩ := Kd.R_slice ho; subst eV1; simp only [List.length_append, List.length_cons, List.length_nil, Nat.zero_add] at ho; replace HF := Aside0.mk (R_apart HF.out HR.out (by decide) hg1); replace HO := Aside0.mk (R_apart HO.out HR.out (by decide) hg1); replace BK := Aside0.mk (blk_grown BK.out hg1 (Kd.R_ne HR.out BK.out (by decide))); replace HR := Aside0.mk ho; replace HB := Aside0.mk hb; clear ho hb hg1 hat hc3; have hc3 : w9.cell? ⟨g, 3, none⟩ = some (.slice Ar r.length cr) := (blk_cell BK.out 3).trans rfl; have hf3 := blk_frozen BK.out 3))
        go_ret
        exact ⟨rfl, Af, cf, Al, cl, vo, _, blk_put BK.out 3 _ rfl, HG.out, Kd.R_set HF.out BK.out (by decide) _ _, HL.out, Kd.R_set HO.out BK.out (by decide) _ _, Kd.R_set HR.out BK.out (by decide) _ _, below_set HB.out HG.out⟩
      · rw [if_pos ⟨rfl, he⟩]
        have p3 := eq_false he
        have p4 : p1.toList.isEmpty = false := by cases hx : p1.toList with | nil => exact absurd hx he | cons _ _ => rfl
        cases hv : shortT fl p1 p1.size 0 l o with
        | none =>
          go_enter Tryd.func24, Tryd.ntmps24
          go_wp2_with (first
            | (go_at_call 40; (with_reducible refine (strings_CutPrefix.calls s ⟨#[45, 45]⟩ p2 false _ HC2.out).mono ?_); rintro e w5 ⟨rfl, hd⟩; replace HT := Aside0.mk (HT.out.below (d0b hd)); clear hd)
            | (go_at_call 40; (with_reducible refine (strings_CutPrefix.calls s ⟨#[45]⟩ p1 true _ HC1.out).mono ?_); rintro e w6 ⟨rfl, hd⟩; replace HT := Aside0.mk (HT.out.below (d0b hd)); clear hd)
            | (go_at_call 42; refine (short_walk w0 _ g fl l o r p1 HT.out (by omega) hfl (by omega)).mono ?_; rintro e w8 hP; rw [hv] at hP; obtain ⟨rfl, h1⟩ := hP))
          go_ret
          exact ⟨rfl, h1⟩
        | some x =>
          go_enter Tryd.func24, Tryd.ntmps24
          go_wp2_with (first
            | (go_at_call 40; (with_reducible refine (strings_CutPrefix.calls s ⟨#[45, 45]⟩ p2 false _ HC2.out).mono ?_); rintro e w5 ⟨rfl, hd⟩; replace HT := Aside0.mk (HT.out.below (d0b hd)); clear hd)
            | (go_at_call 40; (with_reducible refine (strings_CutPrefix.calls s ⟨#[45]⟩ p1 true _ HC1.out).mono ?_); rintro e w6 ⟨rfl, hd⟩; replace HT := Aside0.mk (HT.out.below (d0b hd)); clear hd)
            | (go_at_call 42; refine (short_walk w0 _ g fl l o r p1 HT.out (by omega) hfl (by omega)).mono ?_; rintro e w8 hP; rw [hv] at hP; obtain ⟨rfl, h1⟩ := hP))
          go_ret
          exact ⟨rfl, h1⟩
    | false =>
      rw [if_neg (by simp)]
      go_enter Tryd.func24, Tryd.ntmps24
      go_wp2_with (first
        | (go_at_call 40; (with_reducible refine (strings_CutPrefix.calls s ⟨#[45, 45]⟩ p2 false _ HC2.out).mono ?_); rintro e w5 ⟨rfl, hd⟩; replace HT := Aside0.mk (HT.out.below (d0b hd)); clear hd)
        | (go_at_call 40; (with_reducible refine (strings_CutPrefix.calls s ⟨#[45]⟩ p1 false _ HC1.out).mono ?_); rintro e W6 ⟨rfl, hd⟩; replace HT := Aside0.mk (HT.out.below (d0b hd)); clear hd; obtain ⟨Af, cf, Al, cl, vo, vr, hbk, hg, hf, hl, ho, hr, hB⟩ := HT.out; obtain ⟨Ar, cr, eVr⟩ := Kd.R_slice hr; subst eVr; have BK := Aside0.mk hbk; have HG := Aside0.mk hg; have HF := Aside0.mk hf; have HL := Aside0.mk hl; have HO := Aside0.mk ho; have HR := Aside0.mk hr; have HB := Aside0.mk hB; clear hbk hg hf hl ho hr hB; have hc3 : W6.cell? ⟨g, 3, none⟩ = some (.slice Ar r.length cr) := (blk_cell BK.out 3).trans rfl)
        | ((with_reducible refine gate_builtin (b := .append) (xs := #[.tmp 36, .tmp 38]) rfl ?_); at_builtin; refine Kd.R_append Kd.string (w0 := w0) w0.heap.size rfl (.tmp 36) (.tmp 38) 23 9 (.string ⟨#[]⟩) 16 rfl Tryd.underlying23 info9t rfl (by decide) (by omega) (.slice Ar r.length cr) r s [.string s] (fun _ => True) (fun _ => False) rfl rfl ?aP (fun _ hk => hk.elim) ?aF ?aO ?aB ?aS ?aL ?_; (case aP => rfl); (case aB => exact HB.out); (case aF => exact (fun _ _ => trivial)); (case aO => exact HR.out); (case aS => exact below_size HB.out); (case aL => omega); intro v1 w9 ho hb hg1 hat; obtain ⟨A1, c1, eV1⟩ := Kd.R_slice ho; subst eV1; simp only [List.length_append, List.length_cons, List.length_nil, Nat.zero_add] at ho; replace HF := Aside0.mk (R_apart HF.out HR.out (by decide) hg1); replace HO := Aside0.mk (R_apart HO.out HR.out (by decide) hg1); replace BK := Aside0.mk (blk_grown BK.out hg1 (Kd.R_ne HR.out BK.out (by decide))); replace HR := Aside0.mk ho; replace HB := Aside0.mk hb; clear ho hb hg1 hat hc3; have hc3 : w9.cell? ⟨g, 3, none⟩ = some (.slice Ar r.length cr) := (blk_cell BK.out 3).trans rfl; have hf3 := blk_frozen BK.out 3))
      go_ret
      exact ⟨rfl, Af, cf, Al, cl, vo, _, blk_put BK.out 3 _ rfl, HG.out, Kd.R_set HF.out BK.out (by decide) _ _, HL.out, Kd.R_set HO.out BK.out (by decide) _ _, Kd.R_set HR.out BK.out (by decide) _ _, below_set HB.out HG.out⟩
end Go.Proofs.YtlginoicaeonhaaDoor.P
