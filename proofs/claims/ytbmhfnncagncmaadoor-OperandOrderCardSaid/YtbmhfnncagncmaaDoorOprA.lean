/- The walks of the reader's methods has, number, size and name. No conditions. -/
import Derived.Test.YtbmhfnncagncmaaDoorPx0
import Derived.Test.YtbmhfnncagncmaaDoorPx4
import Derived.Test.YtbmhfnncagncmaaDoorPx9
import Derived.Test.YtbmhfnncagncmaaDoorPx17
namespace Go.Proofs.YtbmhfnncagncmaaDoor.P
open Go.RowKit Go.Proofs.YtbmhfnncagncmaaDoorW.PrintWords Go.Proofs.YtbmhfnncagncmaaDoorW.PrintLast
set_option linter.unusedVariables false
set_option linter.unusedSimpArgs false
theorem d0b {w w' : World} (h : Drawn0 w w') : Below w.heap.size w w' := by
  obtain ⟨n, rfl⟩ := h
  exact pw_below_drewN (Below.refl _ _) n
/-- The reader at block g: its options, and whether all is right so far. -/
def RD (w0 W : World) (g : Nat) (A : Option Addr) (c : Nat) (l : List S60) (ok : Bool) : Prop :=
  W.heap[g]? = some (.cells #[.slice A l.length c, .bool ok] 43 (0, 0)) ∧ w0.heap.size ≤ g ∧ Kd.C k60 w0 A l.length l ∧ l.length ≤ c ∧ Below w0.heap.size w0 W
/-- What is not one of these blocks stays. -/
def Fr (W w' : World) (g : Nat) : Prop := ∀ (k : Nat) (cs : Array Value) (t : TypeId), k ≠ g → W.heap[k]? = some (.cells cs t (0, 0)) → w'.heap[k]? = some (.cells cs t (0, 0))
theorem Fr.below {W w' : World} {g : Nat} (hb : Below W.heap.size W w') : Fr W w' g := fun _ _ _ _ h => blk_below h hb
theorem Fr.trans {W X w' : World} {g : Nat} (h : Fr W X g) (h2 : Fr X w' g) : Fr W w' g := fun k cs t hk he => h2 k cs t hk (h k cs t hk he)
theorem Fr.set {W X : World} {g : Nat} (h : Fr W X g) (i : Nat) (v : Value) : Fr W (X.setCell ⟨g, i, none⟩ v) g := fun k cs t hk he => blk_far (h k cs t hk he) hk v
theorem RD.bel {w0 W W1 : World} {g : Nat} {A : Option Addr} {c : Nat} {l : List S60} {ok : Bool} (h : RD w0 W g A c l ok) (hb : Below W.heap.size W W1) : RD w0 W1 g A c l ok := by
  obtain ⟨h1, h2, h3, h4, h5⟩ := h
  exact ⟨blk_below h1 hb, h2, h3, h4, below_step h5 hb⟩
theorem RD.put {w0 W : World} {g : Nat} {A : Option Addr} {c : Nat} {l : List S60} {ok : Bool} (h : RD w0 W g A c l ok) (b : Bool) : RD w0 (W.setCell ⟨g, 1, none⟩ (.bool b)) g A c l b := by
  obtain ⟨h1, h2, h3, h4, h5⟩ := h
  exact ⟨blk_set h1 1 _, h2, h3, h4, below_set h5 h2⟩
/-- A number's operand, or another one without it; is it right? -/
def numT (k : Nat) (l : List S60) (key : ByteArray) (wo : Int) : Option (Int × Bool) :=
  if (arg_Find.g l key l.length).2 = true then num_Get.f k (arg_Find.g l key l.length).1 else some (wo, true)
def hasT (l : List S60) (key : ByteArray) : Bool := (arg_Find.g l key l.length).2
set_option maxHeartbeats 4000000 in
set_option maxRecDepth 100000 in
theorem has_walk (w0 W : World) (g : Nat) (A : Option Addr) (c : Nat) (l : List S60) (ok : Bool) (key : ByteArray) (h : RD w0 W g A c l ok) :
    Calls Tryd.prog 14 #[.pointer (some ⟨g, 0, none⟩), .string key] W fun e w' => e = .returned (.bool (hasT l key)) ∧ Below W.heap.size W w' := by
  obtain ⟨hbk, hg, hC, hc, hB⟩ := h
  have BK := Aside0.mk hbk
  have HC := Aside0.mk (Kd.C_below hC hB)
  have HCc := Aside0.mk hc
  clear hbk hg hC hc hB
  unfold hasT
  obtain ⟨v, hs, hf⟩ : ∃ v hs, arg_Find.g l key l.length = (v, hs) := ⟨_, _, rfl⟩
  have HF := Aside0.mk (show arg_Find.f l key = some (v, hs) from by unfold arg_Find.f; rw [hf])
  rw [hf]
  clear hf
  obtain ⟨i0, i1, j0, j1⟩ := c2_ BK
  go_enter Tryd.func14, Tryd.ntmps14
  go_wp2_with (go_at_call 21; (with_reducible refine (arg_Find.calls A c l key v hs _ HC.out HCc.out HF.out).mono ?_); rintro e w1 ⟨rfl, hb⟩)
  go_ret
  exact ⟨rfl, hb⟩
set_option maxHeartbeats 4000000 in
set_option maxRecDepth 100000 in
theorem number_walk (k : Nat) (w0 W : World) (g : Nat) (A : Option Addr) (c : Nat) (l : List S60) (ok : Bool) (key : ByteArray) (wo n : Int) (b : Bool) (h : RD w0 W g A c l ok) (htab : TabAt w0) (hn : numT k l key wo = some (n, b)) :
    Calls Tryd.prog 27 #[.pointer (some ⟨g, 0, none⟩), .string key, .int .i64 wo] W fun e w' => e = .returned (.int .i64 n) ∧ RD w0 w' g A c l (ok && b) ∧ Fr W w' g := by
  have HR := Aside0.mk h
  obtain ⟨hbk, hg, hC, hc, hB⟩ := h
  have BK := Aside0.mk hbk
  have HC := Aside0.mk (Kd.C_below hC hB)
  have HCc := Aside0.mk hc
  have HT := Aside0.mk (htab.below hB)
  clear hbk hg hC hc hB htab
  unfold numT at hn
  obtain ⟨v, hs, hf⟩ : ∃ v hs, arg_Find.g l key l.length = (v, hs) := ⟨_, _, rfl⟩
  have HF := Aside0.mk (show arg_Find.f l key = some (v, hs) from by unfold arg_Find.f; rw [hf])
  rw [hf] at hn
  clear hf
  obtain ⟨i0, i1, j0, j1⟩ := c2_ BK
  cases hs with
  | false =>
    rw [if_neg (by simp)] at hn
    obtain ⟨rfl, rfl⟩ : wo = n ∧ true = b := by simpa using hn
    go_enter Tryd.func27, Tryd.ntmps27
    go_wp2_with (go_at_call 21; (with_reducible refine (arg_Find.calls A c l key v false _ HC.out HCc.out HF.out).mono ?_); rintro e w1 ⟨rfl, hb⟩)
    go_ret
    exact ⟨rfl, by rw [Bool.and_true]; exact HR.out.bel hb, Fr.below hb⟩
  | true =>
    rw [if_pos rfl] at hn
    have HN := Aside0.mk hn
    clear hn
    cases ok <;>
    (go_enter Tryd.func27, Tryd.ntmps27
     go_wp2_with (first
      | (go_at_call 21; (with_reducible refine (arg_Find.calls A c l key v true _ HC.out HCc.out HF.out).mono ?_); rintro e w1 ⟨rfl, hb⟩; have H1 := Aside0.mk hb; clear hb)
      | (go_at_call 41; (with_reducible refine (num_Get.calls k v n b _ HN.out (HT.out.below H1.out)).mono ?_); rintro e w2 ⟨rfl, hb⟩; have H2 := Aside0.mk (below_step H1.out hb); clear hb i0 i1 j0 j1; obtain ⟨i0, i1, j0, j1⟩ := c2_ ⟨blk_below BK.out H2.out⟩))
     go_ret
     exact ⟨rfl, (HR.out.bel H2.out).put _, (Fr.below H2.out).set 1 _⟩)
def sizeT (k : Nat) (l : List S60) (key : ByteArray) (wo : Int) : Option (Int × Bool) :=
  (numT k l key wo).map fun x => (x.1, x.2 && (!hasT l key || (decide (1 ≤ x.1) && decide (x.1 ≤ 4096))))
set_option maxHeartbeats 4000000 in
set_option maxRecDepth 100000 in
theorem size_walk (k : Nat) (w0 W : World) (g : Nat) (A : Option Addr) (c : Nat) (l : List S60) (ok : Bool) (key : ByteArray) (wo n : Int) (b : Bool) (h : RD w0 W g A c l ok) (htab : TabAt w0) (hn : sizeT k l key wo = some (n, b)) :
    Calls Tryd.prog 26 #[.pointer (some ⟨g, 0, none⟩), .string key, .int .i64 wo] W fun e w' => e = .returned (.int .i64 n) ∧ RD w0 w' g A c l (ok && b) ∧ Fr W w' g := by
  unfold sizeT at hn
  obtain ⟨⟨n1, b1⟩, hn1, hx⟩ := Option.map_eq_some_iff.mp hn
  obtain ⟨rfl, hb1⟩ : n1 = n ∧ _ := by simpa using hx
  clear hx hn
  have HN := Aside0.mk hn1
  have HR := Aside0.mk h
  have HT := Aside0.mk htab
  clear h htab hn1
  cases hh : hasT l key with
  | false =>
    rw [hh] at hb1
    obtain rfl : b1 = b := by simpa using hb1
    clear hb1
    have HH := Aside0.mk hh
    clear hh
    go_enter Tryd.func26, Tryd.ntmps26
    go_wp2_with (first
      | (go_at_call 27; (with_reducible refine (number_walk k w0 _ g A c l ok key wo n1 b1 HR.out HT.out HN.out).mono ?_); rintro e w1 ⟨rfl, hr, hf⟩; have H1 := Aside0.mk hr; have F1 := Aside0.mk hf; clear hr hf)
      | (go_at_call 14; (with_reducible refine (has_walk w0 _ g A c l _ key H1.out).mono ?_); rw [HH.out]; rintro e w2 ⟨rfl, hb⟩; have H2 := Aside0.mk hb; clear hb))
    go_ret
    exact ⟨rfl, H1.out.bel H2.out, F1.out.trans (Fr.below H2.out)⟩
  | true =>
    rw [hh] at hb1
    obtain rfl : (b1 && (decide (1 ≤ n1) && decide (n1 ≤ 4096))) = b := by simpa using hb1
    clear hb1
    have HH := Aside0.mk hh
    clear hh
    obtain ⟨p1, hp1⟩ : ∃ p, p = decide (1 ≤ n1) := ⟨_, rfl⟩
    obtain ⟨p2, hp2⟩ : ∃ p, p = decide (n1 ≤ 4096) := ⟨_, rfl⟩
    rw [← hp1, ← hp2]
    obtain ⟨q, hq⟩ : ∃ q, q = (ok && b1) := ⟨_, rfl⟩
    have HQ := Aside0.mk hq
    clear hq
    replace hp1 := hp1.symm
    replace hp2 := hp2.symm
    cases q <;> cases p1 <;> cases p2 <;>
    (go_enter Tryd.func26, Tryd.ntmps26
     go_wp2_with (first
      | (go_at_call 27; (with_reducible refine (number_walk k w0 _ g A c l ok key wo n1 b1 HR.out HT.out HN.out).mono ?_); rw [← HQ.out]; rintro e w1 ⟨rfl, hr, hf⟩; have H1 := Aside0.mk hr; have F1 := Aside0.mk hf; clear hr hf)
      | (go_at_call 14; (with_reducible refine (has_walk w0 _ g A c l _ key H1.out).mono ?_); rw [HH.out]; rintro e w2 ⟨rfl, hb⟩; have H2 := Aside0.mk hb; clear hb; obtain ⟨i0, i1, j0, j1⟩ := c2_ ⟨blk_below H1.out.1 H2.out⟩))
     go_ret
     exact ⟨rfl, by rw [← Bool.and_assoc, ← HQ.out]; exact (H1.out.bel H2.out).put _, (F1.out.trans (Fr.below H2.out)).set 1 _⟩)
/-- A file's name; is it one? -/
def nameT (k : Nat) (l : List S60) (key : ByteArray) (ok : Bool) : Option (ByteArray × Bool) :=
  if ok = true then (image_MayName.f k (arg_Find.g l key l.length).1).map fun m => ((arg_Find.g l key l.length).1, m) else some ((arg_Find.g l key l.length).1, false)
set_option maxHeartbeats 4000000 in
set_option maxRecDepth 100000 in
theorem name_walk (k : Nat) (w0 W : World) (g : Nat) (A : Option Addr) (c : Nat) (l : List S60) (ok : Bool) (key : ByteArray) (v : ByteArray) (b : Bool) (h : RD w0 W g A c l ok) (hn : nameT k l key ok = some (v, b)) :
    Calls Tryd.prog 10 #[.pointer (some ⟨g, 0, none⟩), .string key] W fun e w' => e = .returned (.string v) ∧ RD w0 w' g A c l b ∧ Fr W w' g := by
  have HR := Aside0.mk h
  obtain ⟨hbk, hg, hC, hc, hB⟩ := h
  have BK := Aside0.mk hbk
  have HC := Aside0.mk (Kd.C_below hC hB)
  have HCc := Aside0.mk hc
  clear hbk hg hC hc hB
  unfold nameT at hn
  obtain ⟨v1, hs, hf⟩ : ∃ v hs, arg_Find.g l key l.length = (v, hs) := ⟨_, _, rfl⟩
  have HF := Aside0.mk (show arg_Find.f l key = some (v1, hs) from by unfold arg_Find.f; rw [hf])
  rw [hf] at hn
  clear hf
  obtain ⟨i0, i1, j0, j1⟩ := c2_ BK
  cases ok with
  | false =>
    rw [if_neg (by simp)] at hn
    obtain ⟨rfl, rfl⟩ : v1 = v ∧ false = b := by simpa using hn
    clear hn
    go_enter Tryd.func10, Tryd.ntmps10
    go_wp2_with (go_at_call 21; (with_reducible refine (arg_Find.calls A c l key v1 hs _ HC.out HCc.out HF.out).mono ?_); rintro e w1 ⟨rfl, hb⟩; have H1 := Aside0.mk hb; clear hb i0 i1 j0 j1; obtain ⟨i0, i1, j0, j1⟩ := c2_ ⟨blk_below BK.out H1.out⟩)
    go_ret
    exact ⟨rfl, (HR.out.bel H1.out).put _, (Fr.below H1.out).set 1 _⟩
  | true =>
    rw [if_pos rfl] at hn
    obtain ⟨m, hm, hx⟩ := Option.map_eq_some_iff.mp hn
    obtain ⟨rfl, rfl⟩ : v1 = v ∧ m = b := by simpa using hx
    have HM := Aside0.mk hm
    clear hn hm hx
    go_enter Tryd.func10, Tryd.ntmps10
    go_wp2_with (first
      | (go_at_call 21; (with_reducible refine (arg_Find.calls A c l key v1 hs _ HC.out HCc.out HF.out).mono ?_); rintro e w1 ⟨rfl, hb⟩; have H1 := Aside0.mk hb; clear hb i0 i1 j0 j1; obtain ⟨i0, i1, j0, j1⟩ := c2_ ⟨blk_below BK.out H1.out⟩)
      | (go_at_call 25; (with_reducible refine (image_MayName.calls k v1 m _ HM.out).mono ?_); rintro e w2 ⟨rfl, hd⟩; have H2 := Aside0.mk (below_step H1.out (d0b hd)); clear hd i0 i1 j0 j1; obtain ⟨i0, i1, j0, j1⟩ := c2_ ⟨blk_below BK.out H2.out⟩))
    go_ret
    exact ⟨rfl, (HR.out.bel H2.out).put _, (Fr.below H2.out).set 1 _⟩
end Go.Proofs.YtbmhfnncagncmaaDoor.P
