import Derived.Test.YtbmhfnncagncmaaGreatDoorPx12
import Derived.StillTailTactics
import Derived.Lib.SplitLaws
import Derived.Test.YtbmhfnncagncmaaGreatDoorPx4
import Derived.Test.YtbmhfnncagncmaaGreatDoorPx5
import Derived.Test.YtbmhfnncagncmaaGreatDoorPx15
import Derived.Laws.CopyRow
import Derived.Laws.CopyOwn
section
namespace Go.Proofs.YtbmhfnncagncmaaGreatDoor.P
open Go.RowKit Go.Proofs.YtbmhfnncagncmaaGreatDoorW.PrintWords Go.Proofs.YtbmhfnncagncmaaGreatDoorW.PrintLast
set_option linter.unusedVariables false
set_option linter.unusedSimpArgs false
theorem d0b {w w' : World} (h : Drawn0 w w') : Below w.heap.size w w' := by
  obtain ⟨n, rfl⟩ := h
  exact pw_below_drewN (Below.refl _ _) n
def RD (w0 W : World) (g : Nat) (A : Option Addr) (c : Nat) (l : List S68) (ok : Bool) : Prop :=
  W.heap[g]? = some (.cells #[.slice A l.length c, .bool ok] 44 (0, 0)) ∧ w0.heap.size ≤ g ∧ Kd.C k68 w0 A l.length l ∧ l.length ≤ c ∧ Below w0.heap.size w0 W
def Fr (W w' : World) (g : Nat) : Prop := ∀ (k : Nat) (cs : Array Value) (t : TypeId), k ≠ g → W.heap[k]? = some (.cells cs t (0, 0)) → w'.heap[k]? = some (.cells cs t (0, 0))
theorem Fr.below {W w' : World} {g : Nat} (hb : Below W.heap.size W w') : Fr W w' g := fun _ _ _ _ h => blk_below h hb
theorem Fr.trans {W X w' : World} {g : Nat} (h : Fr W X g) (h2 : Fr X w' g) : Fr W w' g := fun k cs t hk he => h2 k cs t hk (h k cs t hk he)
theorem Fr.set {W X : World} {g : Nat} (h : Fr W X g) (i : Nat) (v : Value) : Fr W (X.setCell ⟨g, i, none⟩ v) g := fun k cs t hk he => blk_far (h k cs t hk he) hk v
theorem RD.bel {w0 W W1 : World} {g : Nat} {A : Option Addr} {c : Nat} {l : List S68} {ok : Bool} (h : RD w0 W g A c l ok) (hb : Below W.heap.size W W1) : RD w0 W1 g A c l ok := by
  obtain ⟨h1, h2, h3, h4, h5⟩ := h
  exact ⟨blk_below h1 hb, h2, h3, h4, below_step h5 hb⟩
theorem RD.put {w0 W : World} {g : Nat} {A : Option Addr} {c : Nat} {l : List S68} {ok : Bool} (h : RD w0 W g A c l ok) (b : Bool) : RD w0 (W.setCell ⟨g, 1, none⟩ (.bool b)) g A c l b := by
  obtain ⟨h1, h2, h3, h4, h5⟩ := h
  exact ⟨blk_set h1 1 _, h2, h3, h4, below_set h5 h2⟩
def numT (k : Nat) (l : List S68) (key : ByteArray) (wo : Int) : Option (Int × Bool) :=
  if (arg_Find.g l key l.length).2 = true then num_Get.f k (arg_Find.g l key l.length).1 else some (wo, true)
def hasT (l : List S68) (key : ByteArray) : Bool := (arg_Find.g l key l.length).2
set_option maxHeartbeats 4000000 in
set_option maxRecDepth 100000 in
theorem has_walk (w0 W : World) (g : Nat) (A : Option Addr) (c : Nat) (l : List S68) (ok : Bool) (key : ByteArray) (h : RD w0 W g A c l ok) :
    Calls Tryz.prog 16 #[.pointer (some ⟨g, 0, none⟩), .string key] W fun e w' => e = .returned (.bool (hasT l key)) ∧ Below W.heap.size W w' := by
  obtain ⟨hbk, hg, hC, hc, hB⟩ := h
  have BK := Aside0.mk hbk
  have HC := Aside0.mk (Kd.C_below hC hB)
  have HCc := Aside0.mk hc
  clear hbk hg hC hc hB
  unfold hasT
  obtain ⟨v, hs, hf⟩ : ∃ v hs, arg_Find.g l key l.length = (v, hs) := ⟨_, _, rfl⟩
  have HF := Aside0.mk (show arg_Find.f l key = some (v, hs) from by unfold arg_Find.f; rw [hf])
  rw [hf]
  clear hf
  obtain ⟨i0, i1, j0, j1⟩ := c2_ BK
  go_enter Tryz.func16, Tryz.ntmps16
  go_wp2_with (go_at_call 31; (with_reducible refine (arg_Find.calls A c l key v hs _ HC.out HCc.out HF.out).mono ?_); rintro e w1 ⟨rfl, hb⟩)
  go_ret
  exact ⟨rfl, hb⟩
set_option maxHeartbeats 4000000 in
set_option maxRecDepth 100000 in
theorem number_walk (k : Nat) (w0 W : World) (g : Nat) (A : Option Addr) (c : Nat) (l : List S68) (ok : Bool) (key : ByteArray) (wo n : Int) (b : Bool) (h : RD w0 W g A c l ok) (htab : TabAt w0) (hn : numT k l key wo = some (n, b)) :
    Calls Tryz.prog 37 #[.pointer (some ⟨g, 0, none⟩), .string key, .int .i64 wo] W fun e w' => e = .returned (.int .i64 n) ∧ RD w0 w' g A c l (ok && b) ∧ Fr W w' g := by
  have HR := Aside0.mk h
  obtain ⟨hbk, hg, hC, hc, hB⟩ := h
  have BK := Aside0.mk hbk
  have HC := Aside0.mk (Kd.C_below hC hB)
  have HCc := Aside0.mk hc
  have HT := Aside0.mk (htab.below hB)
  clear hbk hg hC hc hB htab
  unfold numT at hn
  obtain ⟨v, hs, hf⟩ : ∃ v hs, arg_Find.g l key l.length = (v, hs) := ⟨_, _, rfl⟩
  have HF := Aside0.mk (show arg_Find.f l key = some (v, hs) from by unfold arg_Find.f; rw [hf])
  rw [hf] at hn
  clear hf
  obtain ⟨i0, i1, j0, j1⟩ := c2_ BK
  cases hs with
  | false =>
    rw [if_neg (by simp)] at hn
    obtain ⟨rfl, rfl⟩ : wo = n ∧ true = b := by simpa using hn
    go_enter Tryz.func37, Tryz.ntmps37
    go_wp2_with (go_at_call 31; (with_reducible refine (arg_Find.calls A c l key v false _ HC.out HCc.out HF.out).mono ?_); rintro e w1 ⟨rfl, hb⟩)
    go_ret
    exact ⟨rfl, by rw [Bool.and_true]; exact HR.out.bel hb, Fr.below hb⟩
  | true =>
    rw [if_pos rfl] at hn
    have HN := Aside0.mk hn
    clear hn
    cases ok <;>
    (go_enter Tryz.func37, Tryz.ntmps37
     go_wp2_with (first
      | (go_at_call 31; (with_reducible refine (arg_Find.calls A c l key v true _ HC.out HCc.out HF.out).mono ?_); rintro e w1 ⟨rfl, hb⟩; have H1 := Aside0.mk hb; clear hb)
      | (go_at_call 61; (with_reducible refine (num_Get.calls k v n b _ HN.out (HT.out.below H1.out)).mono ?_); rintro e w2 ⟨rfl, hb⟩; have H2 := Aside0.mk (below_step H1.out hb); clear hb i0 i1 j0 j1; obtain ⟨i0, i1, j0, j1⟩ := c2_ ⟨blk_below BK.out H2.out⟩))
     go_ret
     exact ⟨rfl, (HR.out.bel H2.out).put _, (Fr.below H2.out).set 1 _⟩)
def sizeT (k : Nat) (l : List S68) (key : ByteArray) (wo : Int) : Option (Int × Bool) :=
  (numT k l key wo).map fun x => (x.1, x.2 && (!hasT l key || (decide (1 ≤ x.1) && decide (x.1 ≤ 4096))))
set_option maxHeartbeats 4000000 in
set_option maxRecDepth 100000 in
theorem size_walk (k : Nat) (w0 W : World) (g : Nat) (A : Option Addr) (c : Nat) (l : List S68) (ok : Bool) (key : ByteArray) (wo n : Int) (b : Bool) (h : RD w0 W g A c l ok) (htab : TabAt w0) (hn : sizeT k l key wo = some (n, b)) :
    Calls Tryz.prog 36 #[.pointer (some ⟨g, 0, none⟩), .string key, .int .i64 wo] W fun e w' => e = .returned (.int .i64 n) ∧ RD w0 w' g A c l (ok && b) ∧ Fr W w' g := by
  unfold sizeT at hn
  obtain ⟨⟨n1, b1⟩, hn1, hx⟩ := Option.map_eq_some_iff.mp hn
  obtain ⟨rfl, hb1⟩ : n1 = n ∧ _ := by simpa using hx
  clear hx hn
  have HN := Aside0.mk hn1
  have HR := Aside0.mk h
  have HT := Aside0.mk htab
  clear h htab hn1
  cases hh : hasT l key with
  | false =>
    rw [hh] at hb1
    obtain rfl : b1 = b := by simpa using hb1
    clear hb1
    have HH := Aside0.mk hh
    clear hh
    go_enter Tryz.func36, Tryz.ntmps36
    go_wp2_with (first
      | (go_at_call 37; (with_reducible refine (number_walk k w0 _ g A c l ok key wo n1 b1 HR.out HT.out HN.out).mono ?_); rintro e w1 ⟨rfl, hr, hf⟩; have H1 := Aside0.mk hr; have F1 := Aside0.mk hf; clear hr hf)
      | (go_at_call 16; (with_reducible refine (has_walk w0 _ g A c l _ key H1.out).mono ?_); rw [HH.out]; rintro e w2 ⟨rfl, hb⟩; have H2 := Aside0.mk hb; clear hb))
    go_ret
    exact ⟨rfl, H1.out.bel H2.out, F1.out.trans (Fr.below H2.out)⟩
  | true =>
    rw [hh] at hb1
    obtain rfl : (b1 && (decide (1 ≤ n1) && decide (n1 ≤ 4096))) = b := by simpa using hb1
    clear hb1
    have HH := Aside0.mk hh
    clear hh
    obtain ⟨p1, hp1⟩ : ∃ p, p = decide (1 ≤ n1) := ⟨_, rfl⟩
    obtain ⟨p2, hp2⟩ : ∃ p, p = decide (n1 ≤ 4096) := ⟨_, rfl⟩
    rw [← hp1, ← hp2]
    obtain ⟨q, hq⟩ : ∃ q, q = (ok && b1) := ⟨_, rfl⟩
    have HQ := Aside0.mk hq
    clear hq
    replace hp1 := hp1.symm
    replace hp2 := hp2.symm
    cases q <;> cases p1 <;> cases p2 <;>
    (go_enter Tryz.func36, Tryz.ntmps36
     go_wp2_with (first
      | (go_at_call 37; (with_reducible refine (number_walk k w0 _ g A c l ok key wo n1 b1 HR.out HT.out HN.out).mono ?_); rw [← HQ.out]; rintro e w1 ⟨rfl, hr, hf⟩; have H1 := Aside0.mk hr; have F1 := Aside0.mk hf; clear hr hf)
      | (go_at_call 16; (with_reducible refine (has_walk w0 _ g A c l _ key H1.out).mono ?_); rw [HH.out]; rintro e w2 ⟨rfl, hb⟩; have H2 := Aside0.mk hb; clear hb; obtain ⟨i0, i1, j0, j1⟩ := c2_ ⟨blk_below H1.out.1 H2.out⟩))
     go_ret
     exact ⟨rfl, by rw [← Bool.and_assoc, ← HQ.out]; exact (H1.out.bel H2.out).put _, (F1.out.trans (Fr.below H2.out)).set 1 _⟩)
def nameT (k : Nat) (l : List S68) (key : ByteArray) (ok : Bool) : Option (ByteArray × Bool) :=
  if ok = true then (image_MayName.f k (arg_Find.g l key l.length).1).map fun m => ((arg_Find.g l key l.length).1, m) else some ((arg_Find.g l key l.length).1, false)
set_option maxHeartbeats 4000000 in
set_option maxRecDepth 100000 in
theorem name_walk (k : Nat) (w0 W : World) (g : Nat) (A : Option Addr) (c : Nat) (l : List S68) (ok : Bool) (key : ByteArray) (v : ByteArray) (b : Bool) (h : RD w0 W g A c l ok) (hn : nameT k l key ok = some (v, b)) :
    Calls Tryz.prog 12 #[.pointer (some ⟨g, 0, none⟩), .string key] W fun e w' => e = .returned (.string v) ∧ RD w0 w' g A c l b ∧ Fr W w' g := by
  have HR := Aside0.mk h
  obtain ⟨hbk, hg, hC, hc, hB⟩ := h
  have BK := Aside0.mk hbk
  have HC := Aside0.mk (Kd.C_below hC hB)
  have HCc := Aside0.mk hc
  clear hbk hg hC hc hB
  unfold nameT at hn
  obtain ⟨v1, hs, hf⟩ : ∃ v hs, arg_Find.g l key l.length = (v, hs) := ⟨_, _, rfl⟩
  have HF := Aside0.mk (show arg_Find.f l key = some (v1, hs) from by unfold arg_Find.f; rw [hf])
  rw [hf] at hn
  clear hf
  obtain ⟨i0, i1, j0, j1⟩ := c2_ BK
  cases ok with
  | false =>
    rw [if_neg (by simp)] at hn
    obtain ⟨rfl, rfl⟩ : v1 = v ∧ false = b := by simpa using hn
    clear hn
    go_enter Tryz.func12, Tryz.ntmps12
    go_wp2_with (go_at_call 31; (with_reducible refine (arg_Find.calls A c l key v1 hs _ HC.out HCc.out HF.out).mono ?_); rintro e w1 ⟨rfl, hb⟩; have H1 := Aside0.mk hb; clear hb i0 i1 j0 j1; obtain ⟨i0, i1, j0, j1⟩ := c2_ ⟨blk_below BK.out H1.out⟩)
    go_ret
    exact ⟨rfl, (HR.out.bel H1.out).put _, (Fr.below H1.out).set 1 _⟩
  | true =>
    rw [if_pos rfl] at hn
    obtain ⟨m, hm, hx⟩ := Option.map_eq_some_iff.mp hn
    obtain ⟨rfl, rfl⟩ : v1 = v ∧ m = b := by simpa using hx
    have HM := Aside0.mk hm
    clear hn hm hx
    go_enter Tryz.func12, Tryz.ntmps12
    go_wp2_with (first
      | (go_at_call 31; (with_reducible refine (arg_Find.calls A c l key v1 hs _ HC.out HCc.out HF.out).mono ?_); rintro e w1 ⟨rfl, hb⟩; have H1 := Aside0.mk hb; clear hb i0 i1 j0 j1; obtain ⟨i0, i1, j0, j1⟩ := c2_ ⟨blk_below BK.out H1.out⟩)
      | (go_at_call 35; (with_reducible refine (image_MayName.calls k v1 m _ HM.out).mono ?_); rintro e w2 ⟨rfl, hd⟩; have H2 := Aside0.mk (below_step H1.out (d0b hd)); clear hd i0 i1 j0 j1; obtain ⟨i0, i1, j0, j1⟩ := c2_ ⟨blk_below BK.out H2.out⟩))
    go_ret
    exact ⟨rfl, (HR.out.bel H2.out).put _, (Fr.below H2.out).set 1 _⟩
end Go.Proofs.YtbmhfnncagncmaaGreatDoor.P
end
section
namespace Go.Proofs.YtbmhfnncagncmaaGreatDoor.P
open Go.RowKit Go.Proofs.YtbmhfnncagncmaaGreatDoorW.PrintWords Go.Proofs.YtbmhfnncagncmaaGreatDoorW.PrintLast
set_option linter.unusedVariables false
set_option linter.unusedSimpArgs false
structure PL where
  swab : Bool
  block : Bool
  unblock : Bool
  lcase : Bool
  ucase : Bool
  ascii : Bool
  ebcdic : Bool
  ibm : Bool
  cbs : Int
  src : ByteArray
  dst : ByteArray
  ibs : Int
  obs : Int
  skip : Int
  seek : Int
  count : Int
  all : Bool
  direct : Bool
  full : Bool
  sync : Bool
  noerror : Bool
  notrunc : Bool
  sparse : Bool
  fsync : Bool
  excl : Bool
  nocreat : Bool
def PL.c (p : PL) : Array Value := #[.bool p.swab, .bool p.block, .bool p.unblock, .bool p.lcase, .bool p.ucase, .bool p.ascii, .bool p.ebcdic, .bool p.ibm, .int .i64 p.cbs, .string p.src, .string p.dst, .int .i64 p.ibs, .int .i64 p.obs, .int .i64 p.skip, .int .i64 p.seek, .int .i64 p.count, .bool p.all, .bool p.direct, .bool p.full, .bool p.sync, .bool p.noerror, .bool p.notrunc, .bool p.sparse, .bool p.fsync, .bool p.excl, .bool p.nocreat]
def PL.setO (p : PL) : Nat → PL
  | 0 => { p with swab := true }
  | 1 => { p with block := true }
  | 2 => { p with unblock := true }
  | 3 => { p with lcase := true }
  | 4 => { p with ucase := true }
  | 5 => { p with ascii := true }
  | 6 => { p with ebcdic := true }
  | 7 => { p with ibm := true }
  | 19 => { p with sync := true }
  | 20 => { p with noerror := true }
  | 21 => { p with notrunc := true }
  | 22 => { p with sparse := true }
  | 23 => { p with fsync := true }
  | 24 => { p with excl := true }
  | 25 => { p with nocreat := true }
  | _ => p
def convW : List ByteArray := [⟨#[115, 119, 97, 98]⟩, ⟨#[98, 108, 111, 99, 107]⟩, ⟨#[117, 110, 98, 108, 111, 99, 107]⟩, ⟨#[108, 99, 97, 115, 101]⟩, ⟨#[117, 99, 97, 115, 101]⟩, ⟨#[97, 115, 99, 105, 105]⟩, ⟨#[101, 98, 99, 100, 105, 99]⟩, ⟨#[105, 98, 109]⟩, ⟨#[115, 121, 110, 99]⟩, ⟨#[110, 111, 101, 114, 114, 111, 114]⟩, ⟨#[110, 111, 116, 114, 117, 110, 99]⟩, ⟨#[115, 112, 97, 114, 115, 101]⟩, ⟨#[102, 115, 121, 110, 99]⟩, ⟨#[101, 120, 99, 108]⟩, ⟨#[110, 111, 99, 114, 101, 97, 116]⟩]
def offs : List Nat := [0, 1, 2, 3, 4, 5, 6, 7, 19, 20, 21, 22, 23, 24, 25]
def fieldO (word : ByteArray) : Option Nat := if Lib.idxOfS convW word < 0 then none else some (offs.getD (Lib.idxOfS convW word).toNat 0)
theorem str_cell (zs : List ByteArray) (j : Nat) (hj : j < zs.length) : ((zs.map Value.string).toArray)[0 + j]? = some (.string (zs.getD j ByteArray.empty)) := by
  simp [hj, List.getD_eq_getElem?_getD]
theorem offs_mem (n : Nat) : offs.getD n 0 ∈ offs := by
  by_cases h : n < 15
  · have : ∀ m : Fin 15, offs.getD m 0 ∈ offs := by decide
    exact this ⟨n, h⟩
  · have e : offs.getD n 0 = 0 := by simp [offs, List.getD_eq_getElem?_getD, List.getElem?_eq_none (show offs.length ≤ n by show 15 ≤ n; omega)]; rw [List.getElem?_eq_none (by show 15 ≤ n; omega)]; rfl
    rw [e]; decide
theorem setO_c (p : PL) (o : Nat) (ho : o ∈ offs) : p.c.setIfInBounds o (.bool true) = (p.setO o).c := by
  simp only [offs, List.mem_cons, List.mem_nil_iff, or_false] at ho
  rcases ho with rfl | rfl | rfl | rfl | rfl | rfl | rfl | rfl | rfl | rfl | rfl | rfl | rfl | rfl | rfl <;> rfl
theorem offs_cell (p : PL) (o : Nat) (ho : o ∈ offs) : ∃ b, p.c[o]? = some (.bool b) := by
  simp only [offs, List.mem_cons, List.mem_nil_iff, or_false] at ho
  rcases ho with rfl | rfl | rfl | rfl | rfl | rfl | rfl | rfl | rfl | rfl | rfl | rfl | rfl | rfl | rfl <;> exact ⟨_, rfl⟩
theorem ptr_cell (gp n : Nat) (hn : n < 15) : (#[.pointer (some ⟨gp, 0, none⟩), .pointer (some ⟨gp, 1, none⟩), .pointer (some ⟨gp, 2, none⟩), .pointer (some ⟨gp, 3, none⟩), .pointer (some ⟨gp, 4, none⟩), .pointer (some ⟨gp, 5, none⟩), .pointer (some ⟨gp, 6, none⟩), .pointer (some ⟨gp, 7, none⟩), .pointer (some ⟨gp, 19, none⟩), .pointer (some ⟨gp, 20, none⟩), .pointer (some ⟨gp, 21, none⟩), .pointer (some ⟨gp, 22, none⟩), .pointer (some ⟨gp, 23, none⟩), .pointer (some ⟨gp, 24, none⟩), .pointer (some ⟨gp, 25, none⟩)] : Array Value)[n]? = some (.pointer (some ⟨gp, offs.getD n 0, none⟩)) := by
  have : n = 0 ∨ n = 1 ∨ n = 2 ∨ n = 3 ∨ n = 4 ∨ n = 5 ∨ n = 6 ∨ n = 7 ∨ n = 8 ∨ n = 9 ∨ n = 10 ∨ n = 11 ∨ n = 12 ∨ n = 13 ∨ n = 14 := by omega
  rcases this with rfl | rfl | rfl | rfl | rfl | rfl | rfl | rfl | rfl | rfl | rfl | rfl | rfl | rfl | rfl <;> rfl
theorem idx_walk (word : ByteArray) (W : World) (g : Nat) (h : W.heap[g]? = some (.cells (convW.map Value.string).toArray 9 (0, 0))) :
    Calls Tryz.prog 59 #[.slice (some ⟨g, 0, none⟩) 15 15, .string word] W fun e w' => e = .returned (.int .i64 (Lib.idxOfS convW word)) ∧ w' = W := by
  have hq := Tryz.slices_Index_string g 0 15 15 convW word W (by decide) (by decide) (fun j hj => (blk_cell h (0 + j)).trans (str_cell convW j hj))
  exact hq
theorem idx_cases (word : ByteArray) : Lib.idxOfS convW word < 0 ∨ ∃ n : Nat, n < 15 ∧ Lib.idxOfS convW word = (n : Int) := by
  have h : ∀ (zs : List ByteArray) (i : Nat), Lib.idxFromS zs word i < 0 ∨ ∃ n : Nat, n < i + zs.length ∧ Lib.idxFromS zs word i = (n : Int) := by
    intro zs
    induction zs with
    | nil => intro i; left; simp [Lib.idxFromS]
    | cons z zs ih =>
      intro i
      unfold Lib.idxFromS
      split
      · exact .inr ⟨i, by simp, rfl⟩
      · rcases ih (i + 1) with h | ⟨n, h1, h2⟩
        · exact .inl h
        · exact .inr ⟨n, by simp only [List.length_cons]; omega, h2⟩
  rcases h convW 0 with h | ⟨n, h1, h2⟩
  · exact .inl h
  · exact .inr ⟨n, by simpa [convW] using h1, h2⟩
set_option maxHeartbeats 8000000 in
set_option maxRecDepth 100000 in
theorem field_walk (gp : Nat) (word : ByteArray) (w : World) :
    Calls Tryz.prog 40 #[.pointer (some ⟨gp, 0, none⟩), .string word] w fun e w' => e = .returned (.pointer ((fieldO word).map fun o => ⟨gp, o, none⟩)) ∧ Below w.heap.size w w' := by
  unfold fieldO
  rcases idx_cases word with hx | ⟨n, hn, hx⟩
  · rw [if_pos hx]
    obtain ⟨ix, hix⟩ : ∃ ix, ix = Lib.idxOfS convW word := ⟨_, rfl⟩
    have HI := Aside0.mk hix
    rw [← hix] at hx
    clear hix
    have hd : decide (ix < 0) = true := decide_eq_true hx
    clear hx
    go_enter Tryz.func40, Tryz.ntmps40
    go_upto_region 2 with (fail)
    go_still_tail 53, (by kernel_rfl)
    go_wp2_with (first
      | (go_at_call 59; generalize hW : World.alloc _ _ = W2; have e1 : W2.heap[w.heap.size]? = some (.cells (convW.map Value.string).toArray 9 (0, 0)) := by {rw [← hW]; exact blk_alloc (blk_drew (blk_new w _)) _}; have eB := Aside0.mk (show Below w.heap.size w W2 by {rw [← hW]; exact below_alloc (below_drew1 (below_alloc (Below.refl _ _) _)) _}); clear hW; refine (idx_walk word W2 _ e1).mono ?_; rw [← HI.out]; rintro e w' ⟨rfl, rfl⟩))
    go_ret
    exact ⟨rfl, eB.out⟩
  · rw [if_neg (by omega)]
    obtain ⟨o, ho⟩ : ∃ o, o = offs.getD n 0 := ⟨_, rfl⟩
    have HX := Aside0.mk hx
    rw [hx]
    clear hx
    have h0 : (0 : Int) ≤ (n : Int) := by omega
    have h15 : (n : Int) < 15 := by omega
    have hd : decide ((n : Int) < 0) = false := decide_eq_false (by omega)
    have hp := ptr_cell gp n hn
    rw [← ho] at hp
    have HP := Aside0.mk hp
    rw [Int.toNat_natCast, ← ho]
    clear hp ho
    go_enter Tryz.func40, Tryz.ntmps40
    go_upto_region 2 with (fail)
    go_still_tail 53, (by kernel_rfl)
    go_wp2_with (first
      | (go_at_call 59; generalize hW : World.alloc _ _ = W2; have e1 : W2.heap[w.heap.size]? = some (.cells (convW.map Value.string).toArray 9 (0, 0)) := by {rw [← hW]; exact blk_alloc (blk_drew (blk_new w _)) _}; have e2 : W2.cell? ⟨w.heap.size + 1, n, none⟩ = some (.pointer (some ⟨gp, o, none⟩)) := by {rw [← hW]; have hq := blk_new ((w.alloc (.cells (convW.map Value.string).toArray 9)).drew) (.cells #[.pointer (some ⟨gp, 0, none⟩), .pointer (some ⟨gp, 1, none⟩), .pointer (some ⟨gp, 2, none⟩), .pointer (some ⟨gp, 3, none⟩), .pointer (some ⟨gp, 4, none⟩), .pointer (some ⟨gp, 5, none⟩), .pointer (some ⟨gp, 6, none⟩), .pointer (some ⟨gp, 7, none⟩), .pointer (some ⟨gp, 19, none⟩), .pointer (some ⟨gp, 20, none⟩), .pointer (some ⟨gp, 21, none⟩), .pointer (some ⟨gp, 22, none⟩), .pointer (some ⟨gp, 23, none⟩), .pointer (some ⟨gp, 24, none⟩), .pointer (some ⟨gp, 25, none⟩)] 74); rw [show ((w.alloc (.cells (convW.map Value.string).toArray 9)).drew).heap.size = w.heap.size + 1 from by {show (Array.push w.heap _).size = w.heap.size + 1; exact Array.size_push ..}] at hq; exact (blk_cell hq n).trans HP.out}; have eB := Aside0.mk (show Below w.heap.size w W2 by {rw [← hW]; exact below_alloc (below_drew1 (below_alloc (Below.refl _ _) _)) _}); clear hW; refine (idx_walk word W2 _ e1).mono ?_; rw [HX.out]; rintro e w' ⟨rfl, rfl⟩))
    go_ret
    exact ⟨rfl, eB.out⟩
end Go.Proofs.YtbmhfnncagncmaaGreatDoor.P
end
section
namespace Go.Proofs.YtbmhfnncagncmaaGreatDoor.P
open Go.RowKit Go.Proofs.YtbmhfnncagncmaaGreatDoorW.PrintWords Go.Proofs.YtbmhfnncagncmaaGreatDoorW.PrintLast
set_option linter.unusedVariables false
set_option linter.unusedSimpArgs false
def convS (p : PL) (word : ByteArray) : PL × Bool := match fieldO word with
  | some o => (p.setO o, true)
  | none => (p, false)
def isFull (word : ByteArray) : Bool := word.toList == [102, 117, 108, 108, 98, 108, 111, 99, 107]
def iflagS (p : PL) (word : ByteArray) : PL × Bool := ({ p with full := p.full || isFull word }, isFull word)
def SetP (W w' : World) (gp : Nat) (p' : PL) : Prop := (∃ X, Below W.heap.size W X ∧ (w' = X ∨ ∃ i v, w' = X.setCell ⟨gp, i, none⟩ v)) ∧ w'.heap[gp]? = some (.cells p'.c 28 (0, 0))
theorem fieldO_mem {word : ByteArray} {o : Nat} (h : fieldO word = some o) : o ∈ offs := by
  unfold fieldO at h
  split at h
  · cases h
  · obtain rfl := Option.some.inj h
    exact offs_mem _
set_option maxHeartbeats 4000000 in
set_option maxRecDepth 100000 in
theorem clos29 (gq gp : Nat) (p : PL) (word : ByteArray) (W : World) (hq : W.heap[gq]? = some (.cells #[.pointer (some ⟨gp, 0, none⟩)] 47 (0, 0))) (hp : W.heap[gp]? = some (.cells p.c 28 (0, 0))) :
    Calls Tryz.prog 39 (#[.string word] ++ #[.pointer (some ⟨gq, 0, none⟩)]) W fun e w' => e = .returned (.bool (convS p word).2) ∧ SetP W w' gp (convS p word).1 := by
  show Calls Tryz.prog 39 #[.string word, .pointer (some ⟨gq, 0, none⟩)] W _
  have q0 : W.cell? ⟨gq, 0, none⟩ = some (.pointer (some ⟨gp, 0, none⟩)) := (blk_cell hq 0).trans rfl
  have HP := Aside0.mk hp
  clear hq hp
  have hf := field_walk gp word W
  unfold convS
  cases hfo : fieldO word with
  | none =>
    rw [hfo] at hf
    have HF := Aside0.mk hf
    clear hf hfo
    go_enter Tryz.func39, Tryz.ntmps39
    go_wp2_with (go_at_call 40; refine HF.out.mono ?_; rintro e w1 ⟨rfl, hb⟩; have HB := Aside0.mk hb; clear hb)
    go_ret
    exact ⟨rfl, ⟨_, HB.out, .inl rfl⟩, blk_below HP.out HB.out⟩
  | some o =>
    rw [hfo] at hf
    have HF := Aside0.mk hf
    have HO := Aside0.mk (fieldO_mem hfo)
    clear hf hfo
    obtain ⟨b, hb0⟩ := offs_cell p o HO.out
    have HC := Aside0.mk hb0
    clear hb0
    go_enter Tryz.func39, Tryz.ntmps39
    go_wp2_with (go_at_call 40; refine HF.out.mono ?_; rintro e w1 ⟨rfl, hb⟩; have HB := Aside0.mk hb; clear hb q0; have c0 : w1.cell? ⟨gp, o, none⟩ = some (.bool b) := (blk_cell (blk_below HP.out HB.out) o).trans HC.out; have f0 := blk_frozen (blk_below HP.out HB.out) o)
    go_ret
    exact ⟨rfl, ⟨_, HB.out, .inr ⟨_, _, rfl⟩⟩, by rw [← setO_c p o HO.out]; exact blk_set (blk_below HP.out HB.out) o _⟩
set_option maxHeartbeats 4000000 in
set_option maxRecDepth 100000 in
theorem clos31 (gq gp : Nat) (p : PL) (word : ByteArray) (W : World) (hq : W.heap[gq]? = some (.cells #[.pointer (some ⟨gp, 0, none⟩)] 47 (0, 0))) (hp : W.heap[gp]? = some (.cells p.c 28 (0, 0))) :
    Calls Tryz.prog 41 (#[.string word] ++ #[.pointer (some ⟨gq, 0, none⟩)]) W fun e w' => e = .returned (.bool (iflagS p word).2) ∧ SetP W w' gp (iflagS p word).1 := by
  show Calls Tryz.prog 41 #[.string word, .pointer (some ⟨gq, 0, none⟩)] W _
  have q0 : W.cell? ⟨gq, 0, none⟩ = some (.pointer (some ⟨gp, 0, none⟩)) := (blk_cell hq 0).trans rfl
  have c0 : W.cell? ⟨gp, 18, none⟩ = some (.bool p.full) := (blk_cell hp 18).trans rfl
  have f0 := blk_frozen hp 18
  have HP := Aside0.mk hp
  clear hq hp
  have hi : isFull word = (word.toList == [102, 117, 108, 108, 98, 108, 111, 99, 107]) := rfl
  unfold iflagS
  obtain ⟨b, hb⟩ : ∃ b, b = isFull word := ⟨_, rfl⟩
  rw [← hb] at hi ⊢
  replace hi := hi.symm
  clear hb
  obtain ⟨q, hq⟩ : ∃ q, q = p.full := ⟨_, rfl⟩
  have HQ := Aside0.mk hq
  rw [← hq] at c0 ⊢
  clear hq
  cases q <;> cases b <;>
  (go_enter Tryz.func41, Tryz.ntmps41
   go_wp2
   go_still_tail 11, (by kernel_rfl)
   go_wp2
   go_ret
   exact ⟨rfl, ⟨_, below_drew1 (Below.refl _ _), .inr ⟨_, _, rfl⟩⟩, blk_set (blk_drew HP.out) 18 _⟩)
end Go.Proofs.YtbmhfnncagncmaaGreatDoor.P
end
section
namespace Go.Proofs.YtbmhfnncagncmaaGreatDoor.P
open Go.RowKit Go.Proofs.YtbmhfnncagncmaaGreatDoorW.PrintWords Go.Proofs.YtbmhfnncagncmaaGreatDoorW.PrintLast
set_option linter.unusedVariables false
set_option linter.unusedSimpArgs false
def Fr2 (W w' : World) (g h : Nat) : Prop := ∀ (k : Nat) (cs : Array Value) (t : TypeId), k ≠ g → k ≠ h → W.heap[k]? = some (.cells cs t (0, 0)) → w'.heap[k]? = some (.cells cs t (0, 0))
theorem Fr2.refl (W : World) (g h : Nat) : Fr2 W W g h := fun _ _ _ _ _ e => e
theorem Fr2.below {W X w' : World} {g h : Nat} (f : Fr2 W X g h) (hb : Below X.heap.size X w') : Fr2 W w' g h := fun k cs t h1 h2 e => blk_below (f k cs t h1 h2 e) hb
theorem Fr2.setl {W X : World} {g h : Nat} (f : Fr2 W X g h) (i : Nat) (v : Value) : Fr2 W (X.setCell ⟨g, i, none⟩ v) g h := fun k cs t h1 h2 e => blk_far (f k cs t h1 h2 e) h1 v
theorem Fr2.setr {W X : World} {g h : Nat} (f : Fr2 W X g h) (i : Nat) (v : Value) : Fr2 W (X.setCell ⟨h, i, none⟩ v) g h := fun k cs t h1 h2 e => blk_far (f k cs t h1 h2 e) h2 v
theorem Fr2.setP {W X w' : World} {g h : Nat} {p : PL} (f : Fr2 W X g h) (s : SetP X w' h p) : Fr2 W w' g h := by
  obtain ⟨⟨Y, hb, rfl | ⟨i, v, rfl⟩⟩, -⟩ := s
  · exact f.below hb
  · exact (f.below hb).setr i v
theorem Fr2.trans {W X w' : World} {g h : Nat} (f : Fr2 W X g h) (f2 : Fr2 X w' g h) : Fr2 W w' g h := fun k cs t h1 h2 e => f2 k cs t h1 h2 (f k cs t h1 h2 e)
theorem Fr2.fr {W X w' : World} {g h : Nat} (f : Fr2 W X g h) (f2 : Fr X w' g) : Fr2 W w' g h := fun k cs t h1 h2 e => f2 k cs t h1 (f k cs t h1 h2 e)
theorem RD.setP {w0 X w' : World} {g h : Nat} {A : Option Addr} {c : Nat} {l : List S68} {ok : Bool} {p : PL} (r : RD w0 X g A c l ok) (s : SetP X w' h p) (hgh : g ≠ h) (hh : w0.heap.size ≤ h) : RD w0 w' g A c l ok := by
  obtain ⟨⟨Y, hb, rfl | ⟨i, v, rfl⟩⟩, -⟩ := s
  · exact r.bel hb
  · obtain ⟨h1, h2, h3, h4, h5⟩ := r.bel hb
    exact ⟨blk_far h1 hgh v, h2, h3, h4, below_set h5 hh⟩
theorem RD.far {w0 X : World} {g h : Nat} {A : Option Addr} {c : Nat} {l : List S68} {ok : Bool} (r : RD w0 X g A c l ok) (i : Nat) (v : Value) (hgh : g ≠ h) (hh : w0.heap.size ≤ h) : RD w0 (X.setCell ⟨h, i, none⟩ v) g A c l ok := by
  obtain ⟨h1, h2, h3, h4, h5⟩ := r
  exact ⟨blk_far h1 hgh v, h2, h3, h4, below_set h5 hh⟩
theorem R_setP {X w' : World} {h base : Nat} {p p0 : PL} {v : Value} {ws : List ByteArray} {ok : Nat → Prop} (r : Kd.R Kd.string 9 X base ok v ws) (hp : X.heap[h]? = some (.cells p0.c 28 (0, 0))) (s : SetP X w' h p) : Kd.R Kd.string 9 w' base ok v ws := by
  obtain ⟨⟨Y, hb, rfl | ⟨i, u, rfl⟩⟩, -⟩ := s
  · exact Kd.R_below r hb
  · exact Kd.R_set (Kd.R_below r hb) (blk_below hp hb) (by decide) i u
def wordsOf (v : ByteArray) : List ByteArray := Lib.splitB ⟨#[44]⟩ 0 (Lib.countB v ⟨#[44]⟩) v
theorem words_f (v : ByteArray) (hv : v.size < 4294967281) : arg_Words.f v 44 = some (wordsOf v) := by
  unfold arg_Words.f strings_Split.f
  rw [show strOfNums ([44] : List Int) = ⟨#[44]⟩ from by decide, if_pos ⟨hv, by decide⟩]
  rfl
def inF (sem : PL → ByteArray → PL × Bool) (ws : List ByteArray) (s : PL × Bool) : PL × Bool := ws.foldl (fun s w => ((sem s.1 w).1, (sem s.1 w).2 && s.2)) s
def outFl (sem : PL → ByteArray → PL × Bool) (key : ByteArray) (l : List S68) (s : PL × Bool) : PL × Bool := l.foldl (fun s o => if (o.f0.toList == key.toList) = true then inF sem (wordsOf o.f1) s else s) s
theorem inF_drop (sem : PL → ByteArray → PL × Bool) (ws : List ByteArray) (s : PL × Bool) (j : Nat) (hj : j < ws.length) : inF sem (ws.drop j) s = inF sem (ws.drop (j + 1)) ((sem s.1 ws[j]).1, (sem s.1 ws[j]).2 && s.2) := by
  rw [List.drop_eq_getElem_cons hj]; rfl
theorem outFl_drop (sem : PL → ByteArray → PL × Bool) (key : ByteArray) (l : List S68) (s : PL × Bool) (j : Nat) (hj : j < l.length) : outFl sem key (l.drop j) s = outFl sem key (l.drop (j + 1)) (if (l[j].f0.toList == key.toList) = true then inF sem (wordsOf l[j].f1) s else s) := by
  rw [List.drop_eq_getElem_cons hj]; rfl
theorem words_len (v : ByteArray) : (wordsOf v).length ≤ v.size + 1 := by
  have hl : (wordsOf v).length = Lib.countB v ⟨#[44]⟩ + 1 := Lib.splitB_all ⟨#[44]⟩ (by decide) 0 _ v rfl
  have hcn := Lib.countB_le ⟨#[44]⟩ (by decide) v.size v (Nat.le_refl _)
  omega
theorem opt_get (l : List S68) (k : Nat) (hk : k < l.length) : rd_T68 l (k : Int) = l[k] := by simp [rd_T68, hk]
theorem rdOf_get (l : List ByteArray) (i : Nat) (hi : i < l.length) : rdOf ByteArray.empty l (i : Int) = l[i] := by simp [rdOf, hi]
set_option maxHeartbeats 8000000 in
set_option maxRecDepth 100000 in
theorem words_walk (sem : PL → ByteArray → PL × Bool) (fn gq gp : Nat) (lb : Array Value) (eg : ∀ args w, (callFunc fn args).run Tryz.prog w = .ok (.enter fn args) w)
    (hcl : ∀ (p : PL) (word : ByteArray) (W : World), W.heap[gq]? = some (.cells #[.pointer (some ⟨gp, 0, none⟩)] 47 (0, 0)) → W.heap[gp]? = some (.cells p.c 28 (0, 0)) → Calls Tryz.prog fn (#[.string word] ++ lb) W fun e w' => e = .returned (.bool (sem p word).2) ∧ SetP W w' gp (sem p word).1)
    (w0 W : World) (g : Nat) (A : Option Addr) (c : Nat) (l : List S68) (ok : Bool) (key : ByteArray) (p : PL) (pE : PL) (okE : Bool) (h : RD w0 W g A c l ok) (htab : TabAt w0)
    (hq : W.heap[gq]? = some (.cells #[.pointer (some ⟨gp, 0, none⟩)] 47 (0, 0))) (hp : W.heap[gp]? = some (.cells p.c 28 (0, 0))) (hg0 : w0.heap.size ≤ gp) (h1 : g ≠ gp) (h2 : gq ≠ g) (h3 : gq ≠ gp) (hl : l.length ≤ 1000000) (hs : ∀ o ∈ l, o.f1.size < 4294967281)
    (hE : outFl sem key l (p, ok) = (pE, okE)) :
    Calls Tryz.prog 38 #[.pointer (some ⟨g, 0, none⟩), .string key, .func (.func fn) #[] lb] W fun e w' => e = .returned (.tuple #[]) ∧ RD w0 w' g A c l okE ∧ w'.heap[gp]? = some (.cells pE.c 28 (0, 0)) ∧ Fr2 W w' g gp := by
  have HCL := Aside0.mk hcl
  have HR := Aside0.mk h
  have HT := Aside0.mk htab
  have HQ := Aside0.mk hq
  have HP := Aside0.mk hp
  have HG0 := Aside0.mk hg0
  have H1 := Aside0.mk h1
  have H2 := Aside0.mk h2
  have H3 := Aside0.mk h3
  have HS := Aside0.mk hs
  have HE := Aside0.mk hE
  obtain ⟨i0, i1, j0, j1⟩ := c2_ ⟨h.1⟩
  clear hcl h htab hq hp hg0 h1 h2 h3 hs hE
  obtain ⟨n, hnn⟩ : ∃ n, n = l.length := ⟨_, rfl⟩
  have NN := Aside0.mk hnn
  rw [← hnn] at i0 hl
  have hn : (n : Int) ≤ 9223372036854775807 := by omega
  clear hnn
  go_enter Tryz.func38, Tryz.ntmps38
  go_wp2
  clear i0 i1 j0 j1
  go_loopg [7, 9, 15] n (fun gg _ _ s15 wr => ∃ (kk : Nat) (p' : PL) (ok' : Bool), kk ≤ n ∧ n - kk ≤ gg ∧ s15 = .int .i64 kk ∧ Aside0 (RD w0 wr g A c l ok') ∧ Aside0 (wr.heap[gp]? = some (.cells p'.c 28 (0, 0))) ∧ Aside0 (Fr2 W wr g gp) ∧ Aside0 (outFl sem key (l.drop kk) (p', ok') = (pE, okE)))
  case atStart => exact ⟨0, p, ok, Nat.zero_le _, by omega, rfl, HR, HP, ⟨Fr2.refl _ _ _⟩, HE⟩
  case round =>
    obtain ⟨kk, p', ok', hkk, hgg, rfl, KR, KP, KF, KE⟩ := hrel
    clear HR HP HE
    have KQ := Aside0.mk (KF.out gq _ _ H2.out H3.out HQ.out)
    by_cases hlt : kk < n
    · have hltz : (kk : Int) < (n : Int) := by omega
      have h0z : (0 : Int) ≤ (kk : Int) := by omega
      have hll : kk < l.length := by rw [← NN.out]; exact hlt
      obtain ⟨ad, eA, c0, c1⟩ := at_T68 (Kd.C_below KR.out.2.2.1 KR.out.2.2.2.2) (kk : Int) h0z (by rw [← NN.out]; exact hltz)
      subst eA
      simp only [Int.toNat_natCast] at c0 c1
      rw [show rd_T68 l (kk : Int) = l[kk] from opt_get l kk hll] at c0 c1
      have hKE := KE.out
      rw [outFl_drop sem key l _ kk hll] at hKE
      obtain ⟨x, hx⟩ : ∃ x, x = l[kk] := ⟨_, rfl⟩
      have HX := Aside0.mk (HS.out l[kk] (List.getElem_mem _))
      rw [← hx] at c0 c1 hKE HX
      clear hx
      cases hk : (x.f0.toList == key.toList) with
      | false =>
        rw [hk, if_neg (by simp)] at hKE
        have KE2 := Aside0.mk hKE
        clear hKE
        go_wp2_with (first | ((with_reducible refine gate_dst (N := 7) rfl ?_); refine box_e 7 #[.string ⟨#[]⟩, .string ⟨#[]⟩] 68 ?_; intro gx hg w1 hbox hb; have H1x := Aside0.mk hb; have e1 := blk_frozen hbox 0; have e2 := blk_frozen hbox 1; have e3 : w1.cell? ⟨gx, 0, none⟩ = some (.string ⟨#[]⟩) := (blk_cell hbox 0).trans rfl; have e4 : w1.cell? ⟨gx, 1, none⟩ = some (.string ⟨#[]⟩) := (blk_cell hbox 1).trans rfl; have HGX := Aside0.mk hg; clear hg hb hbox))
        have HY : Below wr.heap.size wr ((w1.setCell ⟨gx, 0, none⟩ (.string x.f0)).setCell ⟨gx, 1, none⟩ (.string x.f1)) := below_set (below_set H1x.out (Nat.le_of_eq HGX.out.symm)) (Nat.le_of_eq HGX.out.symm)
        go_roundg (n - (kk + 1))
        case measure => omega
        case rel => exact ⟨kk + 1, p', ok', by omega, by omega, by go_num, ⟨KR.out.bel HY⟩, ⟨blk_below KP.out HY⟩, ⟨KF.out.below HY⟩, KE2⟩
      | true =>
        rw [hk, if_pos rfl] at hKE
        obtain ⟨ws, hws⟩ : ∃ ws, ws = wordsOf x.f1 := ⟨_, rfl⟩
        have HW := Aside0.mk (words_f x.f1 HX.out)
        have hwl := words_len x.f1
        rw [← hws] at hKE HW hwl
        clear hws
        obtain ⟨⟨pM, okM⟩, hM⟩ : ∃ r, r = inF sem ws (p', ok') := ⟨_, rfl⟩
        rw [← hM] at hKE
        have KE2 := Aside0.mk hKE
        have HM := Aside0.mk hM.symm
        clear hKE hM
        obtain ⟨m, hm⟩ : ∃ m, m = ws.length := ⟨_, rfl⟩
        have MM := Aside0.mk hm
        have hxs := HX.out
        have hmb : (m : Int) ≤ 9223372036854775807 := by omega
        clear hwl hxs hm
        go_wp2_with (first
          | ((with_reducible refine gate_dst (N := 7) rfl ?_); refine box_e 7 #[.string ⟨#[]⟩, .string ⟨#[]⟩] 68 ?_; intro gx hg w1 hbox hb; have H1x := Aside0.mk hb; have e1 := blk_frozen hbox 0; have e2 := blk_frozen hbox 1; have e3 : w1.cell? ⟨gx, 0, none⟩ = some (.string ⟨#[]⟩) := (blk_cell hbox 0).trans rfl; have e4 : w1.cell? ⟨gx, 1, none⟩ = some (.string ⟨#[]⟩) := (blk_cell hbox 1).trans rfl; have HGX := Aside0.mk hg; clear hg hb hbox)
          | (go_at_call 62; generalize hW : World.setCell (World.setCell w1 _ _) _ _ = wz; have HY := Aside0.mk (show Below wr.heap.size wr wz by {rw [← hW]; exact below_set (below_set H1x.out (Nat.le_of_eq HGX.out.symm)) (Nat.le_of_eq HGX.out.symm)}); clear hW e1 e2 e3 e4 H1x; refine (arg_Words.calls x.f1 44 ws _ HW.out (HT.out.below (KR.out.bel HY.out).2.2.2.2)).mono ?_; rintro e w2 ⟨v0, rfl, hr, hb⟩; obtain ⟨A2, c2, ev⟩ := Kd.R_slice hr; subst ev; rw [← MM.out]; have K9 := Aside0.mk hr; have HZ := Aside0.mk hb; clear hr hb))
        go_loopg [9, 27] m (fun gg _ s27 wv => ∃ (jj : Nat) (p2 : PL) (ok2 : Bool), jj ≤ m ∧ m - jj ≤ gg ∧ s27 = .int .i64 jj ∧ Aside0 (RD w0 wv g (some ad) c l ok2) ∧ Aside0 (wv.heap[gp]? = some (.cells p2.c 28 (0, 0))) ∧ Aside0 (Fr2 W wv g gp) ∧ Aside0 (Kd.R Kd.string 9 wv wz.heap.size (fun _ => True) (.slice A2 m c2) ws) ∧ Aside0 (inF sem (ws.drop jj) (p2, ok2) = (pM, okM)))
        case atStart => exact ⟨0, p', ok', Nat.zero_le _, by omega, rfl, ⟨(KR.out.bel HY.out).bel HZ.out⟩, ⟨blk_below (blk_below KP.out HY.out) HZ.out⟩, ⟨(KF.out.below HY.out).below HZ.out⟩, ⟨by rw [MM.out]; exact K9.out⟩, HM⟩
        case round =>
          obtain ⟨jj, p2, ok2, hjj, hgg2, rfl, QR, QP, QF, Q9, QE⟩ := hrel
          clear KR KP KF KQ K9 HY HZ HM
          have QQ := Aside0.mk (QF.out gq _ _ H2.out H3.out HQ.out)
          by_cases hlt2 : jj < m
          · have hltz2 : (jj : Int) < (m : Int) := by omega
            have h0z2 : (0 : Int) ≤ (jj : Int) := by omega
            have hjl : jj < ws.length := by rw [← MM.out]; exact hlt2
            obtain ⟨ad2, eA2, d0⟩ := Kd.at_string (Kd.R_reads' Q9.out).2.2 (jj : Int) h0z2 (by rw [← MM.out]; exact hltz2)
            subst eA2
            simp only [Int.toNat_natCast] at d0
            rw [rdOf_get ws jj hjl] at d0
            have hQE := QE.out
            rw [inF_drop sem ws _ jj hjl] at hQE
            obtain ⟨y, hy⟩ : ∃ y, y = ws[jj] := ⟨_, rfl⟩
            rw [← hy] at d0 hQE
            clear hy
            have hcl := HCL.out p2 y _ QQ.out QP.out
            obtain ⟨⟨pn, sb⟩, hsb⟩ : ∃ r, r = sem p2 y := ⟨_, rfl⟩
            simp only [← hsb] at hcl hQE
            have QE2 := Aside0.mk hQE
            have HCL2 := Aside0.mk hcl
            clear hcl hQE hsb
            cases sb <;>
            (go_wp2_with (go_at_fn fn; refine HCL2.out.mono ?_; rintro e w3 ⟨rfl, hsp⟩; have HSP := Aside0.mk hsp; have QR2 := Aside0.mk (QR.out.setP hsp H1.out HG0.out); clear hsp d0; obtain ⟨i0, i1, j0, j1⟩ := c2_ ⟨QR2.out.1⟩)
             go_roundg (m - (jj + 1))
             case measure => omega
             case rel => exact ⟨jj + 1, pn, _, by omega, by omega, by go_num, ⟨QR2.out.put _⟩, ⟨blk_far HSP.out.2 H1.out.symm _⟩, ⟨(QF.out.setP HSP.out).setl 1 _⟩, ⟨Kd.R_set (R_setP Q9.out QP.out HSP.out) QR2.out.1 (by decide) 1 _⟩, QE2⟩)
          · have hltz2 : ¬ (jj : Int) < (m : Int) := by omega
            have hj2 : jj = m := by omega
            subst hj2
            have hQE := QE.out
            rw [MM.out, List.drop_length] at hQE
            obtain ⟨rfl, rfl⟩ : p2 = pM ∧ ok2 = okM := by simpa [inF] using hQE
            clear hQE
            go_wp2
            go_roundg (n - (kk + 1))
            case measure => omega
            case rel => exact ⟨kk + 1, p2, ok2, by omega, by omega, by go_num, QR, QP, QF, KE2⟩
    · have hltz : ¬ (kk : Int) < (n : Int) := by omega
      have hk2 : kk = n := by omega
      subst hk2
      have hKE := KE.out
      rw [NN.out, List.drop_length] at hKE
      obtain ⟨rfl, rfl⟩ : p' = pE ∧ ok' = okE := by simpa [outFl] using hKE
      clear hKE
      go_wp2
      go_end0
      exact ⟨rfl, KR.out, KP.out, KF.out⟩
end Go.Proofs.YtbmhfnncagncmaaGreatDoor.P
end
section
namespace Go.Proofs.YtbmhfnncagncmaaGreatDoor.P
open Go.RowKit Go.Proofs.YtbmhfnncagncmaaGreatDoorW.PrintWords Go.Proofs.YtbmhfnncagncmaaGreatDoorW.PrintLast
set_option linter.unusedVariables false
set_option linter.unusedSimpArgs false
def flagsF (l : List S68) (s : PL × Bool) : PL × Bool := outFl iflagS ⟨#[105, 102, 108, 97, 103]⟩ l (outFl convS ⟨#[99, 111, 110, 118]⟩ l s)
set_option maxHeartbeats 4000000 in
set_option maxRecDepth 100000 in
theorem flags_walk (gp : Nat) (w0 W : World) (g : Nat) (A : Option Addr) (c : Nat) (l : List S68) (ok : Bool) (p pE : PL) (okE : Bool) (h : RD w0 W g A c l ok) (htab : TabAt w0)
    (hp : W.heap[gp]? = some (.cells p.c 28 (0, 0))) (hg0 : w0.heap.size ≤ gp) (h1 : g ≠ gp) (hl : l.length ≤ 1000000) (hs : ∀ o ∈ l, o.f1.size < 4294967281) (hE : flagsF l (p, ok) = (pE, okE)) :
    Calls Tryz.prog 14 #[.pointer (some ⟨g, 0, none⟩), .pointer (some ⟨gp, 0, none⟩)] W fun e w' => e = .returned (.tuple #[]) ∧ RD w0 w' g A c l okE ∧ w'.heap[gp]? = some (.cells pE.c 28 (0, 0)) ∧ Fr2 W w' g gp := by
  have HR := Aside0.mk h
  have HT := Aside0.mk htab
  have HP := Aside0.mk hp
  have HG0 := Aside0.mk hg0
  have H1 := Aside0.mk h1
  have HL := Aside0.mk hl
  have HS := Aside0.mk hs
  obtain ⟨⟨p1, ok1⟩, hm⟩ : ∃ r, r = outFl convS ⟨#[99, 111, 110, 118]⟩ l (p, ok) := ⟨_, rfl⟩
  unfold flagsF at hE
  rw [← hm] at hE
  have HE := Aside0.mk hE
  have HM := Aside0.mk hm.symm
  have eg29 : ∀ args w, (callFunc 39 args).run Tryz.prog w = .ok (.enter 39 args) w := enters_of Tryz.func39 (by kernel_rfl) rfl
  have eg31 : ∀ args w, (callFunc 41 args).run Tryz.prog w = .ok (.enter 41 args) w := enters_of Tryz.func41 (by kernel_rfl) rfl
  have hmf : ∀ (fn : Fn) (first cap : Array Value) (w : World), (Instr.makeFunc fn first cap).run Tryz.prog w = .ok (.func fn first cap) w := fun _ _ _ _ => rfl
  clear h htab hp hg0 h1 hl hs hE hm
  go_enter Tryz.func14, Tryz.ntmps14
  go_wp2_with (first
    | ((with_reducible refine gate_dst (N := 3) rfl ?_); refine box_e 3 #[.pointer (some ⟨gp, 0, none⟩)] 47 ?_; intro gq hg w1 hbox hb; have HGQ := Aside0.mk hg; have HQ := Aside0.mk hbox; have HF := Aside0.mk ((Fr2.refl W g gp).below hb); have H2 := Aside0.mk (show gq ≠ g from by rw [hg]; exact Nat.ne_of_gt (blk_lt HR.out.1)); have H3 := Aside0.mk (show gq ≠ gp from by rw [hg]; exact Nat.ne_of_gt (blk_lt HP.out)); replace HR := Aside0.mk (HR.out.bel hb); replace HP := Aside0.mk (blk_below HP.out hb); clear hg hbox hb)
    | (go_at_call 38; (with_reducible refine (words_walk convS 39 gq gp #[.pointer (some ⟨gq, 0, none⟩)] eg29 (fun p word W hq hp => clos29 gq gp p word W hq hp) w0 _ g A c l ok ⟨#[99, 111, 110, 118]⟩ p p1 ok1 HR.out HT.out HQ.out HP.out HG0.out H1.out H2.out H3.out HL.out HS.out HM.out).mono ?_); rintro e w2 ⟨rfl, hr, hp, hf⟩; replace HR := Aside0.mk hr; replace HP := Aside0.mk hp; replace HQ := Aside0.mk (hf gq _ _ H2.out H3.out HQ.out); replace HF := Aside0.mk (HF.out.trans hf); clear hr hp hf)
    | (go_at_call 38; (with_reducible refine (words_walk iflagS 41 gq gp #[.pointer (some ⟨gq, 0, none⟩)] eg31 (fun p word W hq hp => clos31 gq gp p word W hq hp) w0 _ g A c l ok1 ⟨#[105, 102, 108, 97, 103]⟩ p1 pE okE HR.out HT.out HQ.out HP.out HG0.out H1.out H2.out H3.out HL.out HS.out HE.out).mono ?_); rintro e w3 ⟨rfl, hr, hp, hf⟩; replace HR := Aside0.mk hr; replace HP := Aside0.mk hp; replace HF := Aside0.mk (HF.out.trans hf); clear hr hp hf))
  go_end0
  exact ⟨rfl, HR.out, HP.out, HF.out⟩
set_option maxHeartbeats 8000000 in
set_option maxRecDepth 100000 in
theorem sizes_walk (k : Nat) (gp : Nat) (w0 W : World) (g : Nat) (A : Option Addr) (c : Nat) (l : List S68) (ok : Bool) (p : PL) (h : RD w0 W g A c l ok) (htab : TabAt w0)
    (hp : W.heap[gp]? = some (.cells p.c 28 (0, 0))) (hg0 : w0.heap.size ≤ gp) (h1 : g ≠ gp) (ibs obs cbs bs skip seek count : Int) (b1 b2 b3 b4 b5 b6 b7 : Bool)
    (e1 : sizeT k l ⟨#[105, 98, 115]⟩ 512 = some (ibs, b1)) (e2 : sizeT k l ⟨#[111, 98, 115]⟩ 512 = some (obs, b2)) (e3 : sizeT k l ⟨#[99, 98, 115]⟩ 0 = some (cbs, b3)) (e4 : sizeT k l ⟨#[98, 115]⟩ 0 = some (bs, b4)) (e5 : numT k l ⟨#[115, 107, 105, 112]⟩ 0 = some (skip, b5)) (e6 : numT k l ⟨#[115, 101, 101, 107]⟩ 0 = some (seek, b6)) (e7 : numT k l ⟨#[99, 111, 117, 110, 116]⟩ 0 = some (count, b7)) :
    Calls Tryz.prog 13 #[.pointer (some ⟨g, 0, none⟩), .pointer (some ⟨gp, 0, none⟩)] W fun e w' => e = .returned (.tuple #[]) ∧ RD w0 w' g A c l (ok && b1 && b2 && b3 && b4 && b5 && b6 && b7) ∧
      w'.heap[gp]? = some (.cells ({ p with ibs := if hasT l ⟨#[98, 115]⟩ = true then bs else ibs, obs := if hasT l ⟨#[98, 115]⟩ = true then bs else obs, cbs := cbs, skip := skip, seek := seek, count := count, all := !hasT l ⟨#[99, 111, 117, 110, 116]⟩ }).c 28 (0, 0)) ∧ Fr2 W w' g gp := by
  have HR := Aside0.mk h
  have HT := Aside0.mk htab
  have HP := Aside0.mk hp
  have HG0 := Aside0.mk hg0
  have H1 := Aside0.mk h1
  have HF := Aside0.mk (Fr2.refl W g gp)
  have E1 := Aside0.mk e1
  have E2 := Aside0.mk e2
  have E3 := Aside0.mk e3
  have E4 := Aside0.mk e4
  have E5 := Aside0.mk e5
  have E6 := Aside0.mk e6
  have E7 := Aside0.mk e7
  clear h htab hp hg0 h1 e1 e2 e3 e4 e5 e6 e7
  obtain ⟨hc, hhc⟩ : ∃ b, b = hasT l ⟨#[99, 111, 117, 110, 116]⟩ := ⟨_, rfl⟩
  have HC := Aside0.mk hhc.symm
  rw [← hhc]
  clear hhc
  obtain ⟨hbs, hhb⟩ : ∃ b, b = hasT l ⟨#[98, 115]⟩ := ⟨_, rfl⟩
  have HBS := Aside0.mk hhb.symm
  rw [← hhb]
  clear hhb
  go_enter Tryz.func13, Tryz.ntmps13
  go_upto_region 1 with (first | (go_at_call 36; (with_reducible refine (size_walk k w0 _ g A c l _ ⟨#[105, 98, 115]⟩ 512 ibs b1 HR.out HT.out E1.out).mono ?_); rintro e w9 ⟨rfl, hr, hf⟩; replace HR := Aside0.mk hr; replace HP := Aside0.mk (hf gp _ _ H1.out.symm HP.out); replace HF := Aside0.mk (HF.out.fr hf); clear hr hf) | (go_at_call 36; (with_reducible refine (size_walk k w0 _ g A c l _ ⟨#[111, 98, 115]⟩ 512 obs b2 HR.out HT.out E2.out).mono ?_); rintro e w9 ⟨rfl, hr, hf⟩; replace HR := Aside0.mk hr; replace HP := Aside0.mk (hf gp _ _ H1.out.symm HP.out); replace HF := Aside0.mk (HF.out.fr hf); clear hr hf) | (go_at_call 36; (with_reducible refine (size_walk k w0 _ g A c l _ ⟨#[99, 98, 115]⟩ 0 cbs b3 HR.out HT.out E3.out).mono ?_); rintro e w9 ⟨rfl, hr, hf⟩; replace HR := Aside0.mk hr; replace HP := Aside0.mk (hf gp _ _ H1.out.symm HP.out); replace HF := Aside0.mk (HF.out.fr hf); clear hr hf; have cc11 := (blk_cell HP.out 11).trans (show _ = some (.int .i64 p.ibs) from rfl); have ff11 := blk_frozen HP.out 11; have cc12 := (blk_cell HP.out 12).trans (show _ = some (.int .i64 p.obs) from rfl); have ff12 := blk_frozen HP.out 12; have cc8 := (blk_cell HP.out 8).trans (show _ = some (.int .i64 p.cbs) from rfl); have ff8 := blk_frozen HP.out 8))
  generalize hW : World.setCell (World.setCell (World.setCell _ _ _) _ _) _ _ = wz1
  replace HR := Aside0.mk (show RD w0 wz1 g A c l _ by rw [← hW]; exact (RD.far (RD.far (RD.far HR.out 11 _ H1.out HG0.out) 12 _ H1.out HG0.out) 8 _ H1.out HG0.out))
  replace HP : Aside0 (wz1.heap[gp]? = some (.cells ({ p with ibs := ibs, obs := obs, cbs := cbs }).c 28 (0, 0))) := ⟨by rw [← hW]; exact (blk_set (blk_set (blk_set HP.out 11 _) 12 _) 8 _)⟩
  replace HF := Aside0.mk (show Fr2 W wz1 g gp by rw [← hW]; exact (Fr2.setr (Fr2.setr (Fr2.setr HF.out 11 _) 12 _) 8 _))
  clear hW cc11 ff11 cc12 ff12 cc8 ff8
  cases hbs with
  | true =>
    go_upto_region 4 with (first | (go_at_call 36; (with_reducible refine (size_walk k w0 _ g A c l _ ⟨#[98, 115]⟩ 0 bs b4 HR.out HT.out E4.out).mono ?_); rintro e w9 ⟨rfl, hr, hf⟩; replace HR := Aside0.mk hr; replace HP := Aside0.mk (hf gp _ _ H1.out.symm HP.out); replace HF := Aside0.mk (HF.out.fr hf); clear hr hf) | (go_at_call 16; (with_reducible refine (has_walk w0 _ g A c l _ ⟨#[98, 115]⟩ HR.out).mono ?_); rw [HBS.out]; rintro e w9 ⟨rfl, hb⟩; replace HR := Aside0.mk (HR.out.bel hb); replace HP := Aside0.mk (blk_below HP.out hb); replace HF := Aside0.mk (HF.out.below hb); clear hb; have cc11 := (blk_cell HP.out 11).trans (show _ = some (.int .i64 ibs) from rfl); have ff11 := blk_frozen HP.out 11; have cc12 := (blk_cell HP.out 12).trans (show _ = some (.int .i64 obs) from rfl); have ff12 := blk_frozen HP.out 12))
    generalize hW : World.setCell (World.setCell _ _ _) _ _ = wz2
    replace HR := Aside0.mk (show RD w0 wz2 g A c l _ by rw [← hW]; exact (RD.far (RD.far HR.out 11 _ H1.out HG0.out) 12 _ H1.out HG0.out))
    replace HP : Aside0 (wz2.heap[gp]? = some (.cells ({ p with ibs := bs, obs := bs, cbs := cbs }).c 28 (0, 0))) := ⟨by rw [← hW]; exact (blk_set (blk_set HP.out 11 _) 12 _)⟩
    replace HF := Aside0.mk (show Fr2 W wz2 g gp by rw [← hW]; exact (Fr2.setr (Fr2.setr HF.out 11 _) 12 _))
    clear hW cc11 ff11 cc12 ff12
    go_wp2_with (first | (go_at_call 37; (with_reducible refine (number_walk k w0 _ g A c l _ ⟨#[115, 107, 105, 112]⟩ 0 skip b5 HR.out HT.out E5.out).mono ?_); rintro e w9 ⟨rfl, hr, hf⟩; replace HR := Aside0.mk hr; replace HP := Aside0.mk (hf gp _ _ H1.out.symm HP.out); replace HF := Aside0.mk (HF.out.fr hf); clear hr hf) | (go_at_call 37; (with_reducible refine (number_walk k w0 _ g A c l _ ⟨#[115, 101, 101, 107]⟩ 0 seek b6 HR.out HT.out E6.out).mono ?_); rintro e w9 ⟨rfl, hr, hf⟩; replace HR := Aside0.mk hr; replace HP := Aside0.mk (hf gp _ _ H1.out.symm HP.out); replace HF := Aside0.mk (HF.out.fr hf); clear hr hf) | (go_at_call 37; (with_reducible refine (number_walk k w0 _ g A c l _ ⟨#[99, 111, 117, 110, 116]⟩ 0 count b7 HR.out HT.out E7.out).mono ?_); rintro e w9 ⟨rfl, hr, hf⟩; replace HR := Aside0.mk hr; replace HP := Aside0.mk (hf gp _ _ H1.out.symm HP.out); replace HF := Aside0.mk (HF.out.fr hf); clear hr hf) | (go_at_call 16; (with_reducible refine (has_walk w0 _ g A c l _ ⟨#[99, 111, 117, 110, 116]⟩ HR.out).mono ?_); rw [HC.out]; rintro e w9 ⟨rfl, hb⟩; replace HR := Aside0.mk (HR.out.bel hb); replace HP := Aside0.mk (blk_below HP.out hb); replace HF := Aside0.mk (HF.out.below hb); clear hb; have cc13 := (blk_cell HP.out 13).trans (show _ = some (.int .i64 p.skip) from rfl); have ff13 := blk_frozen HP.out 13; have cc14 := (blk_cell HP.out 14).trans (show _ = some (.int .i64 p.seek) from rfl); have ff14 := blk_frozen HP.out 14; have cc15 := (blk_cell HP.out 15).trans (show _ = some (.int .i64 p.count) from rfl); have ff15 := blk_frozen HP.out 15; have cc16 := (blk_cell HP.out 16).trans (show _ = some (.bool p.all) from rfl); have ff16 := blk_frozen HP.out 16))
    go_end0
    exact ⟨rfl, (RD.far (RD.far (RD.far (RD.far HR.out 13 _ H1.out HG0.out) 14 _ H1.out HG0.out) 15 _ H1.out HG0.out) 16 _ H1.out HG0.out), (blk_set (blk_set (blk_set (blk_set HP.out 13 _) 14 _) 15 _) 16 _), (Fr2.setr (Fr2.setr (Fr2.setr (Fr2.setr HF.out 13 _) 14 _) 15 _) 16 _)⟩
  | false =>
    go_upto_region 4 with (first | (go_at_call 36; (with_reducible refine (size_walk k w0 _ g A c l _ ⟨#[98, 115]⟩ 0 bs b4 HR.out HT.out E4.out).mono ?_); rintro e w9 ⟨rfl, hr, hf⟩; replace HR := Aside0.mk hr; replace HP := Aside0.mk (hf gp _ _ H1.out.symm HP.out); replace HF := Aside0.mk (HF.out.fr hf); clear hr hf) | (go_at_call 16; (with_reducible refine (has_walk w0 _ g A c l _ ⟨#[98, 115]⟩ HR.out).mono ?_); rw [HBS.out]; rintro e w9 ⟨rfl, hb⟩; replace HR := Aside0.mk (HR.out.bel hb); replace HP := Aside0.mk (blk_below HP.out hb); replace HF := Aside0.mk (HF.out.below hb); clear hb))
    go_wp2_with (first | (go_at_call 37; (with_reducible refine (number_walk k w0 _ g A c l _ ⟨#[115, 107, 105, 112]⟩ 0 skip b5 HR.out HT.out E5.out).mono ?_); rintro e w9 ⟨rfl, hr, hf⟩; replace HR := Aside0.mk hr; replace HP := Aside0.mk (hf gp _ _ H1.out.symm HP.out); replace HF := Aside0.mk (HF.out.fr hf); clear hr hf) | (go_at_call 37; (with_reducible refine (number_walk k w0 _ g A c l _ ⟨#[115, 101, 101, 107]⟩ 0 seek b6 HR.out HT.out E6.out).mono ?_); rintro e w9 ⟨rfl, hr, hf⟩; replace HR := Aside0.mk hr; replace HP := Aside0.mk (hf gp _ _ H1.out.symm HP.out); replace HF := Aside0.mk (HF.out.fr hf); clear hr hf) | (go_at_call 37; (with_reducible refine (number_walk k w0 _ g A c l _ ⟨#[99, 111, 117, 110, 116]⟩ 0 count b7 HR.out HT.out E7.out).mono ?_); rintro e w9 ⟨rfl, hr, hf⟩; replace HR := Aside0.mk hr; replace HP := Aside0.mk (hf gp _ _ H1.out.symm HP.out); replace HF := Aside0.mk (HF.out.fr hf); clear hr hf) | (go_at_call 16; (with_reducible refine (has_walk w0 _ g A c l _ ⟨#[99, 111, 117, 110, 116]⟩ HR.out).mono ?_); rw [HC.out]; rintro e w9 ⟨rfl, hb⟩; replace HR := Aside0.mk (HR.out.bel hb); replace HP := Aside0.mk (blk_below HP.out hb); replace HF := Aside0.mk (HF.out.below hb); clear hb; have cc13 := (blk_cell HP.out 13).trans (show _ = some (.int .i64 p.skip) from rfl); have ff13 := blk_frozen HP.out 13; have cc14 := (blk_cell HP.out 14).trans (show _ = some (.int .i64 p.seek) from rfl); have ff14 := blk_frozen HP.out 14; have cc15 := (blk_cell HP.out 15).trans (show _ = some (.int .i64 p.count) from rfl); have ff15 := blk_frozen HP.out 15; have cc16 := (blk_cell HP.out 16).trans (show _ = some (.bool p.all) from rfl); have ff16 := blk_frozen HP.out 16))
    go_end0
    exact ⟨rfl, (RD.far (RD.far (RD.far (RD.far HR.out 13 _ H1.out HG0.out) 14 _ H1.out HG0.out) 15 _ H1.out HG0.out) 16 _ H1.out HG0.out), (blk_set (blk_set (blk_set (blk_set HP.out 13 _) 14 _) 15 _) 16 _), (Fr2.setr (Fr2.setr (Fr2.setr (Fr2.setr HF.out 13 _) 14 _) 15 _) 16 _)⟩
end Go.Proofs.YtbmhfnncagncmaaGreatDoor.P
end
section
namespace Go.Proofs.YtbmhfnncagncmaaGreatDoor.P
open Go.RowKit Go.Proofs.YtbmhfnncagncmaaGreatDoorW.PrintWords Go.Proofs.YtbmhfnncagncmaaGreatDoorW.PrintLast
set_option linter.unusedVariables false
set_option linter.unusedSimpArgs false
def zeroPL : PL := ⟨false, false, false, false, false, false, false, false, 0, ⟨#[]⟩, ⟨#[]⟩, 0, 0, 0, 0, 0, false, false, false, false, false, false, false, false, false, false⟩
def keysW : List ByteArray := [⟨#[105, 102]⟩, ⟨#[111, 102]⟩, ⟨#[98, 115]⟩, ⟨#[105, 98, 115]⟩, ⟨#[111, 98, 115]⟩, ⟨#[99, 98, 115]⟩, ⟨#[115, 107, 105, 112]⟩, ⟨#[115, 101, 101, 107]⟩, ⟨#[99, 111, 117, 110, 116]⟩, ⟨#[99, 111, 110, 118]⟩, ⟨#[105, 102, 108, 97, 103]⟩]
def mayF (k : Nat) (p : PL) : Option Bool := operand_may.f k p.swab p.block p.unblock p.lcase p.ucase p.ascii p.ebcdic p.ibm p.cbs p.src p.dst p.ibs p.obs p.skip p.seek p.count p.all p.direct p.full p.sync p.noerror p.notrunc p.sparse p.fsync p.excl p.nocreat
def convertsF (p : PL) : Bool := p.swab || (p.block || (p.unblock || (p.lcase || (p.ucase || (p.ascii || (p.ebcdic || p.ibm))))))
def sizesF (k : Nat) (l : List S68) (p : PL) (ok : Bool) : Option (PL × Bool) :=
  (sizeT k l ⟨#[105, 98, 115]⟩ 512).bind fun e1 => (sizeT k l ⟨#[111, 98, 115]⟩ 512).bind fun e2 => (sizeT k l ⟨#[99, 98, 115]⟩ 0).bind fun e3 => (sizeT k l ⟨#[98, 115]⟩ 0).bind fun e4 => (numT k l ⟨#[115, 107, 105, 112]⟩ 0).bind fun e5 => (numT k l ⟨#[115, 101, 101, 107]⟩ 0).bind fun e6 => (numT k l ⟨#[99, 111, 117, 110, 116]⟩ 0).bind fun e7 =>
    some ({ p with ibs := if hasT l ⟨#[98, 115]⟩ = true then e4.1 else e1.1, obs := if hasT l ⟨#[98, 115]⟩ = true then e4.1 else e2.1, cbs := e3.1, skip := e5.1, seek := e6.1, count := e7.1, all := !hasT l ⟨#[99, 111, 117, 110, 116]⟩ }, ok && e1.2 && e2.2 && e3.2 && e4.2 && e5.2 && e6.2 && e7.2)
def tailF (k : Nat) (o : List S68) (s : PL × Bool) : Option (PL × Int) :=
  if s.2 = true then (mayF k s.1).bind fun m => if m = true then some ({ s.1 with direct := hasT o ⟨#[98, 115]⟩ && !convertsF s.1 }, 0) else some (zeroPL, 2) else some (zeroPL, 2)
def knownF (k : Nat) (o : List S68) : Option (PL × Int) :=
  if o.length ≤ 1000000 ∧ o.all (fun x => decide (x.f1.size < 4294967281)) = true then
    (nameT k o ⟨#[105, 102]⟩ true).bind fun n1 => (nameT k o ⟨#[111, 102]⟩ n1.2).bind fun n2 => (sizesF k o { zeroPL with src := n1.1, dst := n2.1 } n2.2).bind fun s => tailF k o (flagsF o s)
  else none
def parseF (k : Nat) (l : List ByteArray) : Option (PL × Int) :=
  (arg_Operands.f k l).bind fun x => if x.2 = true then (arg_Only.f x.1 keysW).bind fun on => if on = true then knownF k x.1 else some (zeroPL, 2) else some (zeroPL, 2)
theorem store_plan (g : Nat) (p q : PL) (W : World) (hg : W.heap[g]? = some (.cells p.c 28 (0, 0))) : (storeVar 28 ⟨g, 0, none⟩ (.agg q.c)).run Tryz.prog W = .ok () (W.setRow g q.c) := by
  have hst := run_storeCells_at (P := Tryz.prog) g 0 28 q.c.toList 0 p.c W hg (by show 0 + 0 + 26 ≤ 26; decide) (by intro v hv; simp only [PL.c, List.mem_cons, List.mem_nil_iff, or_false] at hv; rcases hv with rfl | rfl | rfl | rfl | rfl | rfl | rfl | rfl | rfl | rfl | rfl | rfl | rfl | rfl | rfl | rfl | rfl | rfl | rfl | rfl | rfl | rfl | rfl | rfl | rfl | rfl <;> rfl)
  have e : (p.c.toList.take (0 + 0) ++ q.c.toList ++ p.c.toList.drop (0 + 0 + q.c.toList.length)).toArray = q.c := by rfl
  rw [e] at hst
  have hi : (Tryz.prog.info? 28).map (·.size) = some 26 := by kernel_rfl
  cases hq : Tryz.prog.info? 28 with
  | none => rw [hq] at hi; cases hi
  | some i =>
    have hs : i.size = 26 := by rw [hq] at hi; simpa using hi
    have hz : (Value.agg q.c).cells.size = 26 := rfl
    have hl : (Value.agg q.c).cells.toList = q.c.toList := rfl
    simp [storeVar, sizeOf, typeInfo, hq, hs, hz, hl, hst]
theorem store_ev {a : Act} {o : Oper} {W : World} {g : Nat} {tp tv : Tmp} {p q : PL} (ho : o.op = .store 28 (.tmp tp) (.tmp tv)) (hp : a.eval (.tmp tp) = .pointer (some ⟨g, 0, none⟩)) (hv : a.eval (.tmp tv) = .agg q.c) (hg : W.heap[g]? = some (.cells p.c 28 (0, 0))) : (execOp a.eval o).run Tryz.prog W = .ok .skip (W.setRow g q.c) := by
  have hst := store_plan g p q W hg
  unfold execOp
  rw [ho]
  simp [Instr.storeAt, Instr.sureAddr, hp, hv, hst]
theorem load_plan {W : World} {g : Nat} {p : PL} (hg : W.heap[g]? = some (.cells p.c 28 (0, 0))) : (Instr.loadAt 28 (.pointer (some ⟨g, 0, none⟩))).run Tryz.prog W = .ok (.agg p.c) W := by
  have hv := run_loadVar_row (P := Tryz.prog) W g 28 28 p.c (0, 0) _ hg Tryz.underlying28 rfl (by kernel_rfl)
  simp [Instr.loadAt, Instr.sureAddr, hv]
theorem load_event {P : Program} {ops : Array Oper} {rest : List Oper} {o : Oper} {a : Act} {Q : Exit → Act → World → Prop} {W : World} (v : Value) (hw : Region.wanted o (yielded ops a.tmps) = true) (hrun : (execOp a.eval o).run P W = .ok (.value v) W) (h : wpList P ops Q rest (a.put o.dst v) W) : wpList P ops Q (o :: rest) a W := by
  simp only [wpList, hw, if_true]
  left
  unfold Oper.wp
  rw [hrun]
  exact h
theorem load_ev {a : Act} {o : Oper} {W : World} {g : Nat} {tp : Tmp} {p : PL} (ho : o.op = .load 28 (.tmp tp)) (hp : a.eval (.tmp tp) = .pointer (some ⟨g, 0, none⟩)) (hg : W.heap[g]? = some (.cells p.c 28 (0, 0))) : (execOp a.eval o).run Tryz.prog W = .ok (.value (.agg p.c)) W := by
  have hl := load_plan hg
  unfold execOp
  rw [ho]
  simp [hp, hl]
theorem load_convs {W : World} {g : Nat} {p : PL} (hg : W.heap[g]? = some (.cells p.c 28 (0, 0))) : (Instr.loadAt 26 (.pointer (some ⟨g, 0, none⟩))).run Tryz.prog W = .ok (.agg #[.bool p.swab, .bool p.block, .bool p.unblock, .bool p.lcase, .bool p.ucase, .bool p.ascii, .bool p.ebcdic, .bool p.ibm, .int .i64 p.cbs]) W := by
  have hl := run_loadCells_list (P := Tryz.prog) (w := W) ⟨g, 0, none⟩ [.bool p.swab, .bool p.block, .bool p.unblock, .bool p.lcase, .bool p.ucase, .bool p.ascii, .bool p.ebcdic, .bool p.ibm, .int .i64 p.cbs] (fun j v hv => by
    have hadd : (⟨g, 0, none⟩ : Addr).add j = ⟨g, j, none⟩ := by unfold Addr.add; split <;> simp_all
    rw [hadd, blk_cell hg j]
    match j, hv with
    | 0, hv => exact hv
    | 1, hv => exact hv
    | 2, hv => exact hv
    | 3, hv => exact hv
    | 4, hv => exact hv
    | 5, hv => exact hv
    | 6, hv => exact hv
    | 7, hv => exact hv
    | 8, hv => exact hv
    | n + 9, hv => simp at hv)
  have hi : (Tryz.prog.info? 26).map (·.size) = some 9 := by kernel_rfl
  have hu := Tryz.underlying26
  cases hq : Tryz.prog.info? 26 with
  | none => rw [hq] at hi; cases hi
  | some i =>
    have hs : i.size = 9 := by rw [hq] at hi; simpa using hi
    simp [Instr.loadAt, Instr.sureAddr, loadVar, isAgg, run_underlying hu, sizeOf, typeInfo, hq, hs, show (loadCells ⟨g, 0, none⟩ 9).run Tryz.prog W = .ok #[.bool p.swab, .bool p.block, .bool p.unblock, .bool p.lcase, .bool p.ucase, .bool p.ascii, .bool p.ebcdic, .bool p.ibm, .int .i64 p.cbs] W from hl]
theorem load_ev23 {a : Act} {o : Oper} {W : World} {g : Nat} {tp : Tmp} {p : PL} (ho : o.op = .load 26 (.tmp tp)) (hp : a.eval (.tmp tp) = .pointer (some ⟨g, 0, none⟩)) (hg : W.heap[g]? = some (.cells p.c 28 (0, 0))) : (execOp a.eval o).run Tryz.prog W = .ok (.value (.agg #[.bool p.swab, .bool p.block, .bool p.unblock, .bool p.lcase, .bool p.ucase, .bool p.ascii, .bool p.ebcdic, .bool p.ibm, .int .i64 p.cbs])) W := by
  have hl := load_convs hg
  unfold execOp
  rw [ho]
  simp [hp, hl]
set_option maxHeartbeats 8000000 in
set_option maxRecDepth 100000 in
theorem parse_walk (k : Nat) (A0 : Option Addr) (c0 : Nat) (l0 : List ByteArray) (r : PL) (rc : Int) (w : World) (hr0 : Kd.C Kd.string w A0 l0.length l0) (hc0 : l0.length ≤ c0) (htab : TabAt w) (h : parseF k l0 = some (r, rc)) :
    Calls Tryz.prog 7 #[.slice A0 l0.length c0] w fun e w' => e = .returned (.tuple #[.agg r.c, .int .i64 rc]) ∧ Below w.heap.size w w' := by
  unfold parseF at h
  obtain ⟨⟨o, ok⟩, ho, h⟩ := Option.bind_eq_some_iff.mp h
  have HR0 := Aside0.mk hr0
  have HC0 := Aside0.mk hc0
  have HT := Aside0.mk htab
  have HO := Aside0.mk ho
  clear hr0 hc0 htab ho
  cases ok with
  | false =>
    rw [if_neg (by simp)] at h
    obtain ⟨rfl, rfl⟩ : zeroPL = r ∧ 2 = rc := by simpa using h
    clear h
    go_enter Tryz.func7, Tryz.ntmps7
    go_upto_region 3 with (first
      | ((with_reducible refine gate_dst (N := 2) rfl ?_); refine box_e 2 zeroPL.c 28 ?_; intro gr hg w1 hbox hb; have BR := Aside0.mk hbox; have HB := Aside0.mk hb; have HGR := Aside0.mk hg; clear hg hbox hb)
      | (go_at_call 10; (with_reducible refine (arg_Operands.calls k A0 c0 l0 o false _ (Kd.C_below HR0.out HB.out) HC0.out HO.out (HT.out.below HB.out)).mono ?_); rintro e w2 ⟨v0, rfl, hr, hb⟩; obtain ⟨A, c, ev⟩ := Kd.R_slice hr; subst ev; have HK := Aside0.mk (Kd.R_reads' hr).2.2; have HKc := Aside0.mk (Kd.R_reads' hr).2.1; replace BR := Aside0.mk (blk_below BR.out hb); replace HB := Aside0.mk (below_step HB.out hb); clear hr hb))
    go_wp2_with (first
      | ((with_reducible refine gate_store (t := 28) (p := 2) rfl ?_); refine store_event (t := 28) (p := 2) (v := .tmp 21) (w1 := (World.setRow w2 gr zeroPL.c)) ?hg1 ?ho1 ?hn1 ?hr1 ?_; (case ho1 => rfl); (case hg1 => rfl); (case hn1 => rfl); (case hr1 => exact store_ev (tp := 2) (tv := 21) (p := zeroPL) (q := zeroPL) rfl rfl rfl BR.out); intro w9 hw; replace BR := Aside0.mk (show w9.heap[gr]? = some (.cells zeroPL.c 28 (0, 0)) by {rw [hw]; exact setRow_heap _ gr _ _ 28 (0, 0) BR.out}); replace HB := Aside0.mk (show Below w.heap.size w w9 by {rw [hw]; exact below_setRow HB.out (Nat.le_of_eq HGR.out.symm) _}); clear hw))
    refine bodyPost_ret (results_ct rfl _ _ gr 28 zeroPL.c (0, 0) _ rfl BR.out Tryz.underlying28 rfl (by kernel_rfl)) rfl ?_
    exact ⟨rfl, HB.out⟩
  | true =>
    rw [if_pos rfl] at h
    obtain ⟨on, hon, h⟩ := Option.bind_eq_some_iff.mp h
    have HON := Aside0.mk hon
    clear hon
    cases on with
    | false =>
      rw [if_neg (by simp)] at h
      obtain ⟨rfl, rfl⟩ : zeroPL = r ∧ 2 = rc := by simpa using h
      clear h
      go_enter Tryz.func7, Tryz.ntmps7
      go_upto_region 3 with (first
        | ((with_reducible refine gate_dst (N := 2) rfl ?_); refine box_e 2 zeroPL.c 28 ?_; intro gr hg w1 hbox hb; have BR := Aside0.mk hbox; have HB := Aside0.mk hb; have HGR := Aside0.mk hg; clear hg hbox hb)
        | (go_at_call 10; (with_reducible refine (arg_Operands.calls k A0 c0 l0 o true _ (Kd.C_below HR0.out HB.out) HC0.out HO.out (HT.out.below HB.out)).mono ?_); rintro e w2 ⟨v0, rfl, hr, hb⟩; obtain ⟨A, c, ev⟩ := Kd.R_slice hr; subst ev; have HK := Aside0.mk (Kd.R_reads' hr).2.2; have HKc := Aside0.mk (Kd.R_reads' hr).2.1; replace BR := Aside0.mk (blk_below BR.out hb); replace HB := Aside0.mk (below_step HB.out hb); clear hr hb)
        | (go_at_call 11; generalize hW : World.alloc _ _ = wz; have HZ := Aside0.mk (show Below w2.heap.size w2 wz by {rw [← hW]; exact below_alloc (Below.refl _ _) _}); have hk : Kd.C Kd.string wz (some ⟨w2.heap.size, 0, none⟩) keysW.length keysW := by {rw [← hW]; exact (Kd.R_reads' (split_owns w2 keysW 11 rfl (by unfold maxLen; omega))).2.2}; clear hW; have hq := arg_Only.calls A c o (some ⟨w2.heap.size, 0, none⟩) 11 keysW false wz (Kd.C_below HK.out HZ.out) HKc.out hk (by decide) HON.out; refine hq.mono ?_; clear hq; rintro e w3 ⟨rfl, hb⟩; replace BR := Aside0.mk (blk_below (blk_below BR.out HZ.out) hb); replace HB := Aside0.mk (below_step (below_step HB.out HZ.out) hb); clear hk hb))
      go_wp2_with (first
        | ((with_reducible refine gate_store (t := 28) (p := 2) rfl ?_); refine store_event (t := 28) (p := 2) (v := .tmp 21) (w1 := (World.setRow w3 gr zeroPL.c)) ?hg2 ?ho2 ?hn2 ?hr2 ?_; (case ho2 => rfl); (case hg2 => rfl); (case hn2 => rfl); (case hr2 => exact store_ev (tp := 2) (tv := 21) (p := zeroPL) (q := zeroPL) rfl rfl rfl BR.out); intro w9 hw; replace BR := Aside0.mk (show w9.heap[gr]? = some (.cells zeroPL.c 28 (0, 0)) by {rw [hw]; exact setRow_heap _ gr _ _ 28 (0, 0) BR.out}); replace HB := Aside0.mk (show Below w.heap.size w w9 by {rw [hw]; exact below_setRow HB.out (Nat.le_of_eq HGR.out.symm) _}); clear hw))
      refine bodyPost_ret (results_ct rfl _ _ gr 28 zeroPL.c (0, 0) _ rfl BR.out Tryz.underlying28 rfl (by kernel_rfl)) rfl ?_
      exact ⟨rfl, HB.out⟩
    | true =>
      rw [if_pos rfl] at h
      unfold knownF at h
      by_cases hG : o.length ≤ 1000000 ∧ o.all (fun x => decide (x.f1.size < 4294967281)) = true
      rotate_left
      · rw [if_neg hG] at h; cases h
      rw [if_pos hG] at h
      have HL := Aside0.mk hG.1
      have HS := Aside0.mk (show ∀ x ∈ o, x.f1.size < 4294967281 from fun x hx => of_decide_eq_true (List.all_eq_true.1 hG.2 x hx))
      clear hG
      obtain ⟨⟨src, ok1⟩, hn1, h⟩ := Option.bind_eq_some_iff.mp h
      obtain ⟨⟨dst, ok2⟩, hn2, h⟩ := Option.bind_eq_some_iff.mp h
      obtain ⟨⟨pS, okS⟩, hsz, h⟩ := Option.bind_eq_some_iff.mp h
      unfold sizesF at hsz
      obtain ⟨⟨ibs, b1⟩, h1, hsz⟩ := Option.bind_eq_some_iff.mp hsz
      obtain ⟨⟨obs, b2⟩, h2, hsz⟩ := Option.bind_eq_some_iff.mp hsz
      obtain ⟨⟨cbs, b3⟩, h3, hsz⟩ := Option.bind_eq_some_iff.mp hsz
      obtain ⟨⟨bs, b4⟩, h4, hsz⟩ := Option.bind_eq_some_iff.mp hsz
      obtain ⟨⟨skip, b5⟩, h5, hsz⟩ := Option.bind_eq_some_iff.mp hsz
      obtain ⟨⟨seek, b6⟩, h6, hsz⟩ := Option.bind_eq_some_iff.mp hsz
      obtain ⟨⟨count, b7⟩, h7, hsz⟩ := Option.bind_eq_some_iff.mp hsz
      have hsz2 := Option.some.inj hsz
      have HPS := Aside0.mk (congrArg Prod.fst hsz2)
      have HOS := Aside0.mk (congrArg Prod.snd hsz2)
      obtain ⟨⟨pE, okE⟩, hfl⟩ : ∃ s, s = flagsF o (pS, okS) := ⟨_, rfl⟩
      have HN1 := Aside0.mk hn1
      have HN2 := Aside0.mk hn2
      have E1 := Aside0.mk h1
      have E2 := Aside0.mk h2
      have E3 := Aside0.mk h3
      have E4 := Aside0.mk h4
      have E5 := Aside0.mk h5
      have E6 := Aside0.mk h6
      have E7 := Aside0.mk h7
      have HFL := Aside0.mk hfl.symm
      rw [← hfl] at h
      have HH := Aside0.mk h
      clear h hsz hsz2 hn1 hn2 h1 h2 h3 h4 h5 h6 h7 hfl
      go_enter Tryz.func7, Tryz.ntmps7
      go_upto_region 3 with (first
        | ((with_reducible refine gate_dst (N := 2) rfl ?_); refine box_e 2 zeroPL.c 28 ?_; intro gr hg w1 hbox hb; have BR := Aside0.mk hbox; have HB := Aside0.mk hb; have HGR := Aside0.mk hg; clear hg hbox hb)
        | (go_at_call 10; (with_reducible refine (arg_Operands.calls k A0 c0 l0 o true _ (Kd.C_below HR0.out HB.out) HC0.out HO.out (HT.out.below HB.out)).mono ?_); rintro e w2 ⟨v0, rfl, hr, hb⟩; obtain ⟨A, c, ev⟩ := Kd.R_slice hr; subst ev; have HK := Aside0.mk (Kd.R_reads' hr).2.2; have HKc := Aside0.mk (Kd.R_reads' hr).2.1; replace BR := Aside0.mk (blk_below BR.out hb); replace HB := Aside0.mk (below_step HB.out hb); clear hr hb)
        | (go_at_call 11; generalize hW : World.alloc _ _ = wz; have HZ := Aside0.mk (show Below w2.heap.size w2 wz by {rw [← hW]; exact below_alloc (Below.refl _ _) _}); have hk : Kd.C Kd.string wz (some ⟨w2.heap.size, 0, none⟩) keysW.length keysW := by {rw [← hW]; exact (Kd.R_reads' (split_owns w2 keysW 11 rfl (by unfold maxLen; omega))).2.2}; clear hW; have hq := arg_Only.calls A c o (some ⟨w2.heap.size, 0, none⟩) 11 keysW true wz (Kd.C_below HK.out HZ.out) HKc.out hk (by decide) HON.out; refine hq.mono ?_; clear hq; rintro e w3 ⟨rfl, hb⟩; replace BR := Aside0.mk (blk_below (blk_below BR.out HZ.out) hb); have HB3 := Aside0.mk hb; replace HB := Aside0.mk (below_step (below_step HB.out HZ.out) hb); clear hk hb))
      replace HK := Aside0.mk (Kd.C_below (Kd.C_below HK.out HZ.out) HB3.out)
      replace HT := Aside0.mk (HT.out.below HB.out)
      clear HZ HB3
      go_upto_region 5 with (fail)
      generalize hW : World.alloc w3 _ = w4
      obtain ⟨g, hg⟩ : ∃ g, g = w3.heap.size := ⟨_, rfl⟩
      rw [← hg]
      have hbox : w4.heap[g]? = some (.cells #[.slice A o.length c, .bool true] 44 (0, 0)) := by rw [← hW, hg]; exact blk_new _ _
      have hb : Below w3.heap.size w3 w4 := by rw [← hW]; exact below_alloc (Below.refl _ _) _
      have HR := Aside0.mk (show RD w3 w4 g A c o true from ⟨hbox, Nat.le_of_eq hg.symm, HK.out, HKc.out, hb⟩)
      have N1 := Aside0.mk (show gr ≠ g from by rw [hg]; exact Nat.ne_of_lt (blk_lt BR.out))
      replace BR := Aside0.mk (blk_below BR.out hb)
      clear hg hbox hb hW
      go_upto_region 6 with (first
        | (go_at_call 12; (with_reducible refine (name_walk k w3 _ g A c o true ⟨#[105, 102]⟩ src ok1 HR.out HN1.out).mono ?_); rintro e w5 ⟨rfl, hr, hf⟩; replace HR := Aside0.mk hr; replace BR := Aside0.mk (hf gr _ _ N1.out BR.out); clear hr hf)
        | (go_at_call 12; (with_reducible refine (name_walk k w3 _ g A c o ok1 ⟨#[111, 102]⟩ dst ok2 HR.out HN2.out).mono ?_); rintro e w6 ⟨rfl, hr, hf⟩; replace HR := Aside0.mk hr; replace BR := Aside0.mk (hf gr _ _ N1.out BR.out); clear hr hf)
        | ((with_reducible refine gate_dst (N := 7) rfl ?_); refine box_e 7 zeroPL.c 28 ?_; intro gp hg w7 hbox hb; have HP := Aside0.mk hbox; have N2 := Aside0.mk (show gr ≠ gp from by rw [hg]; exact Nat.ne_of_lt (blk_lt BR.out)); have N3 := Aside0.mk (show g ≠ gp from by rw [hg]; exact Nat.ne_of_lt (blk_lt HR.out.1)); have HG0 := Aside0.mk (show w3.heap.size ≤ gp from by rw [hg]; exact below_size HR.out.2.2.2.2); replace BR := Aside0.mk (blk_below BR.out hb); replace HR := Aside0.mk (HR.out.bel hb); clear hg hbox hb)
        | ((with_reducible refine gate_store (t := 28) (p := 7) rfl ?_); refine store_event (t := 28) (p := 7) (v := .tmp 29) (w1 := (World.setRow w7 gp ({ zeroPL with src := src, dst := dst } : PL).c)) ?hg3 ?ho3 ?hn3 ?hr3 ?_; (case ho3 => rfl); (case hg3 => rfl); (case hn3 => rfl); (case hr3 => exact store_ev (tp := 7) (tv := 29) (p := zeroPL) (q := ({ zeroPL with src := src, dst := dst } : PL)) rfl rfl rfl HP.out); intro w8 hw; replace BR := Aside0.mk (show w8.heap[gr]? = some (.cells zeroPL.c 28 (0, 0)) by {rw [hw, setRow_other _ gp gr _ N2.out]; exact BR.out}); replace HR := Aside0.mk (show RD w3 w8 g A c o ok2 by {rw [hw]; exact ⟨(setRow_other _ gp g _ N3.out).trans HR.out.1, HR.out.2.1, HR.out.2.2.1, HR.out.2.2.2.1, below_setRow HR.out.2.2.2.2 HG0.out _⟩}); replace HP := Aside0.mk (show w8.heap[gp]? = some (.cells ({ zeroPL with src := src, dst := dst } : PL).c 28 (0, 0)) by {rw [hw]; exact setRow_heap _ gp _ _ 28 (0, 0) HP.out}); clear hw))
      go_upto_region 8 with (first
        | (go_at_call 13; (with_reducible refine (sizes_walk k gp w3 _ g A c o ok2 ({ zeroPL with src := src, dst := dst } : PL) HR.out HT.out HP.out HG0.out N3.out ibs obs cbs bs skip seek count b1 b2 b3 b4 b5 b6 b7 E1.out E2.out E3.out E4.out E5.out E6.out E7.out).mono ?_); rw [HOS.out, HPS.out]; rintro e w9 ⟨rfl, hr, hp, hf⟩; replace HR := Aside0.mk hr; replace HP := Aside0.mk hp; replace BR := Aside0.mk (hf gr _ _ N1.out N2.out BR.out); clear hr hp hf)
        | (go_at_call 14; (with_reducible refine (flags_walk gp w3 _ g A c o okS pS pE okE HR.out HT.out HP.out HG0.out N3.out HL.out HS.out HFL.out).mono ?_); rintro e w10 ⟨rfl, hr, hp, hf⟩; replace HR := Aside0.mk hr; replace HP := Aside0.mk hp; replace BR := Aside0.mk (hf gr _ _ N1.out N2.out BR.out); clear hr hp hf))
      have h := HH.out
      clear HH HPS HOS E1 E2 E3 E4 E5 E6 E7 HN1 HN2 HFL HON HO HR0 HC0
      unfold tailF at h
      obtain ⟨i0, i1, j0, j1⟩ := c2_ ⟨HR.out.1⟩
      cases okE with
      | false =>
        rw [if_neg (by simp)] at h
        obtain ⟨rfl, rfl⟩ : zeroPL = r ∧ 2 = rc := by simpa using h
        clear h
        replace HB := Aside0.mk (below_step HB.out HR.out.2.2.2.2)
        go_wp2_with (first
          | ((with_reducible refine gate_store (t := 28) (p := 2) rfl ?_); refine store_event (t := 28) (p := 2) (v := .tmp 44) (w1 := (World.setRow w10 gr zeroPL.c)) ?hg4 ?ho4 ?hn4 ?hr4 ?_; (case ho4 => rfl); (case hg4 => rfl); (case hn4 => rfl); (case hr4 => exact store_ev (tp := 2) (tv := 44) (p := zeroPL) (q := zeroPL) rfl rfl rfl BR.out); intro w9 hw; replace BR := Aside0.mk (show w9.heap[gr]? = some (.cells zeroPL.c 28 (0, 0)) by {rw [hw]; exact setRow_heap _ gr _ _ 28 (0, 0) BR.out}); replace HB := Aside0.mk (show Below w.heap.size w w9 by {rw [hw]; exact below_setRow HB.out (Nat.le_of_eq HGR.out.symm) _}); clear hw))
        refine bodyPost_ret (results_ct rfl _ _ gr 28 zeroPL.c (0, 0) _ rfl BR.out Tryz.underlying28 rfl (by kernel_rfl)) rfl ?_
        exact ⟨rfl, HB.out⟩
      | true =>
        rw [if_pos rfl] at h
        obtain ⟨m, hm, h⟩ := Option.bind_eq_some_iff.mp h
        have HM := Aside0.mk (show operand_may.f k pE.swab pE.block pE.unblock pE.lcase pE.ucase pE.ascii pE.ebcdic pE.ibm pE.cbs pE.src pE.dst pE.ibs pE.obs pE.skip pE.seek pE.count pE.all pE.direct pE.full pE.sync pE.noerror pE.notrunc pE.sparse pE.fsync pE.excl pE.nocreat = some m from hm)
        clear hm
        cases m with
        | false =>
          rw [if_neg (by simp)] at h
          obtain ⟨rfl, rfl⟩ : zeroPL = r ∧ 2 = rc := by simpa using h
          clear h
          go_upto_region 9 with (first
            | ((with_reducible refine gate_dst (N := 40) rfl ?_); refine load_event (.agg pE.c) (by rfl) (load_ev (tp := 7) rfl rfl HP.out) ?_)
            | (go_at_call 15; refine (operand_may.calls k pE.swab pE.block pE.unblock pE.lcase pE.ucase pE.ascii pE.ebcdic pE.ibm pE.cbs pE.src pE.dst pE.ibs pE.obs pE.skip pE.seek pE.count pE.all pE.direct pE.full pE.sync pE.noerror pE.notrunc pE.sparse pE.fsync pE.excl pE.nocreat false _ HM.out).mono ?_; rintro e w11 ⟨rfl, hb⟩; replace HR := Aside0.mk (HR.out.bel hb); replace HP := Aside0.mk (blk_below HP.out hb); replace BR := Aside0.mk (blk_below BR.out hb); clear hb; clear i0 i1 j0 j1; obtain ⟨i0, i1, j0, j1⟩ := c2_ ⟨HR.out.1⟩))
          replace HB := Aside0.mk (below_step HB.out HR.out.2.2.2.2)
          go_wp2_with (first
            | ((with_reducible refine gate_store (t := 28) (p := 2) rfl ?_); refine store_event (t := 28) (p := 2) (v := .tmp 44) (w1 := (World.setRow w11 gr zeroPL.c)) ?hg5 ?ho5 ?hn5 ?hr5 ?_; (case ho5 => rfl); (case hg5 => rfl); (case hn5 => rfl); (case hr5 => exact store_ev (tp := 2) (tv := 44) (p := zeroPL) (q := zeroPL) rfl rfl rfl BR.out); intro w9 hw; replace BR := Aside0.mk (show w9.heap[gr]? = some (.cells zeroPL.c 28 (0, 0)) by {rw [hw]; exact setRow_heap _ gr _ _ 28 (0, 0) BR.out}); replace HB := Aside0.mk (show Below w.heap.size w w9 by {rw [hw]; exact below_setRow HB.out (Nat.le_of_eq HGR.out.symm) _}); clear hw))
          refine bodyPost_ret (results_ct rfl _ _ gr 28 zeroPL.c (0, 0) _ rfl BR.out Tryz.underlying28 rfl (by kernel_rfl)) rfl ?_
          exact ⟨rfl, HB.out⟩
        | true =>
          rw [if_pos rfl] at h
          obtain ⟨rfl, rfl⟩ : { pE with direct := hasT o ⟨#[98, 115]⟩ && !convertsF pE } = r ∧ 0 = rc := by simpa using h
          clear h
          obtain ⟨hb0, hhb⟩ : ∃ b, b = hasT o ⟨#[98, 115]⟩ := ⟨_, rfl⟩
          have HBS := Aside0.mk hhb.symm
          clear hhb
          cases hb0 with
          | false =>
            go_upto_region 11 with (first
              | ((with_reducible refine gate_dst (N := 40) rfl ?_); refine load_event (.agg pE.c) (by rfl) (load_ev (tp := 7) rfl rfl HP.out) ?_)
              | (go_at_call 15; refine (operand_may.calls k pE.swab pE.block pE.unblock pE.lcase pE.ucase pE.ascii pE.ebcdic pE.ibm pE.cbs pE.src pE.dst pE.ibs pE.obs pE.skip pE.seek pE.count pE.all pE.direct pE.full pE.sync pE.noerror pE.notrunc pE.sparse pE.fsync pE.excl pE.nocreat true _ HM.out).mono ?_; rintro e w11 ⟨rfl, hb⟩; replace HR := Aside0.mk (HR.out.bel hb); replace HP := Aside0.mk (blk_below HP.out hb); replace BR := Aside0.mk (blk_below BR.out hb); clear hb; clear i0 i1 j0 j1; obtain ⟨i0, i1, j0, j1⟩ := c2_ ⟨HR.out.1⟩)
              | (go_at_call 16; (with_reducible refine (has_walk w3 _ g A c o true ⟨#[98, 115]⟩ HR.out).mono ?_); rw [HBS.out]; rintro e w12 ⟨rfl, hb⟩; replace HR := Aside0.mk (HR.out.bel hb); replace HP := Aside0.mk (blk_below HP.out hb); replace BR := Aside0.mk (blk_below BR.out hb); clear hb; clear i0 i1 j0 j1; obtain ⟨i0, i1, j0, j1⟩ := c2_ ⟨HR.out.1⟩; have a17 := (blk_cell HP.out 17).trans (show _ = some (.bool pE.direct) from rfl); have ff17 := blk_frozen HP.out 17))
            generalize hW : World.setCell _ _ _ = wz
            have HB2 := Aside0.mk (show Below w3.heap.size w3 wz by {rw [← hW]; exact below_set HR.out.2.2.2.2 HG0.out})
            replace BR := Aside0.mk (show wz.heap[gr]? = some (.cells zeroPL.c 28 (0, 0)) by {rw [← hW]; exact blk_far BR.out N2.out _})
            replace HP := Aside0.mk (show wz.heap[gp]? = some (.cells ({ pE with direct := false } : PL).c 28 (0, 0)) by {rw [← hW]; exact blk_set HP.out 17 _})
            clear hW ff17 a17 i0 i1 j0 j1
            replace HB := Aside0.mk (below_step HB.out HB2.out)
            have GR0 := Aside0.mk (Nat.le_of_eq HGR.out.symm)
            go_wp2_with (first
              | ((with_reducible refine gate_dst (N := 54) rfl ?_); refine load_event (.agg ({ pE with direct := false } : PL).c) (by rfl) (load_ev (tp := 7) rfl rfl HP.out) ?_)
              | ((with_reducible refine gate_store (t := 28) (p := 2) rfl ?_); refine store_event (t := 28) (p := 2) (v := .tmp 54) (w1 := (World.setRow wz gr ({ pE with direct := false } : PL).c)) ?hg6 ?ho6 ?hn6 ?hr6 ?_; (case ho6 => rfl); (case hg6 => rfl); (case hn6 => rfl); (case hr6 => exact store_ev (tp := 2) (tv := 54) (p := zeroPL) (q := ({ pE with direct := false } : PL)) rfl rfl rfl BR.out); intro w14 hw; replace BR := Aside0.mk (show w14.heap[gr]? = some (.cells ({ pE with direct := false } : PL).c 28 (0, 0)) by {rw [hw]; exact setRow_heap _ gr _ _ 28 (0, 0) BR.out}); replace HB := Aside0.mk (show Below w.heap.size w w14 by {rw [hw]; exact below_setRow HB.out GR0.out _}); clear hw))
            refine bodyPost_ret (results_ct rfl _ _ gr 28 ({ pE with direct := false } : PL).c (0, 0) _ rfl BR.out Tryz.underlying28 rfl (by kernel_rfl)) rfl ?_
            exact ⟨by rw [HBS.out]; rfl, HB.out⟩
          | true =>
            obtain ⟨cv, hcv⟩ : ∃ b, b = convertsF pE := ⟨_, rfl⟩
            have HCV := Aside0.mk (show operand_converts.f pE.swab pE.block pE.unblock pE.lcase pE.ucase pE.ascii pE.ebcdic pE.ibm pE.cbs = some cv from by rw [hcv]; rfl)
            have HCV2 := Aside0.mk hcv
            clear hcv
            go_upto_region 11 with (first
              | ((with_reducible refine gate_dst (N := 40) rfl ?_); refine load_event (.agg pE.c) (by rfl) (load_ev (tp := 7) rfl rfl HP.out) ?_)
              | (go_at_call 15; refine (operand_may.calls k pE.swab pE.block pE.unblock pE.lcase pE.ucase pE.ascii pE.ebcdic pE.ibm pE.cbs pE.src pE.dst pE.ibs pE.obs pE.skip pE.seek pE.count pE.all pE.direct pE.full pE.sync pE.noerror pE.notrunc pE.sparse pE.fsync pE.excl pE.nocreat true _ HM.out).mono ?_; rintro e w11 ⟨rfl, hb⟩; replace HR := Aside0.mk (HR.out.bel hb); replace HP := Aside0.mk (blk_below HP.out hb); replace BR := Aside0.mk (blk_below BR.out hb); clear hb; clear i0 i1 j0 j1; obtain ⟨i0, i1, j0, j1⟩ := c2_ ⟨HR.out.1⟩)
              | (go_at_call 16; (with_reducible refine (has_walk w3 _ g A c o true ⟨#[98, 115]⟩ HR.out).mono ?_); rw [HBS.out]; rintro e w12 ⟨rfl, hb⟩; replace HR := Aside0.mk (HR.out.bel hb); replace HP := Aside0.mk (blk_below HP.out hb); replace BR := Aside0.mk (blk_below BR.out hb); clear hb; clear i0 i1 j0 j1; obtain ⟨i0, i1, j0, j1⟩ := c2_ ⟨HR.out.1⟩; have a17 := (blk_cell HP.out 17).trans (show _ = some (.bool pE.direct) from rfl); have ff17 := blk_frozen HP.out 17)
              | ((with_reducible refine gate_dst (N := 49) rfl ?_); refine load_event (.agg #[.bool pE.swab, .bool pE.block, .bool pE.unblock, .bool pE.lcase, .bool pE.ucase, .bool pE.ascii, .bool pE.ebcdic, .bool pE.ibm, .int .i64 pE.cbs]) (by rfl) (load_ev23 (tp := 48) (p := pE) rfl rfl HP.out) ?_)
              | (go_at_call 17; (with_reducible refine (operand_converts.calls pE.swab pE.block pE.unblock pE.lcase pE.ucase pE.ascii pE.ebcdic pE.ibm pE.cbs cv _ HCV.out).mono ?_); rintro e w13 ⟨rfl, hb⟩; replace HR := Aside0.mk (HR.out.bel hb); replace HP := Aside0.mk (blk_below HP.out hb); replace BR := Aside0.mk (blk_below BR.out hb); clear hb ff17 a17; clear i0 i1 j0 j1; obtain ⟨i0, i1, j0, j1⟩ := c2_ ⟨HR.out.1⟩; have a17 := (blk_cell HP.out 17).trans (show _ = some (.bool pE.direct) from rfl); have ff17 := blk_frozen HP.out 17))
            generalize hW : World.setCell _ _ _ = wz
            have HB2 := Aside0.mk (show Below w3.heap.size w3 wz by {rw [← hW]; exact below_set HR.out.2.2.2.2 HG0.out})
            replace BR := Aside0.mk (show wz.heap[gr]? = some (.cells zeroPL.c 28 (0, 0)) by {rw [← hW]; exact blk_far BR.out N2.out _})
            replace HP := Aside0.mk (show wz.heap[gp]? = some (.cells ({ pE with direct := !cv } : PL).c 28 (0, 0)) by {rw [← hW]; exact blk_set HP.out 17 _})
            clear hW ff17 a17 i0 i1 j0 j1
            replace HB := Aside0.mk (below_step HB.out HB2.out)
            have GR0 := Aside0.mk (Nat.le_of_eq HGR.out.symm)
            go_wp2_with (first
              | ((with_reducible refine gate_dst (N := 54) rfl ?_); refine load_event (.agg ({ pE with direct := !cv } : PL).c) (by rfl) (load_ev (tp := 7) rfl rfl HP.out) ?_)
              | ((with_reducible refine gate_store (t := 28) (p := 2) rfl ?_); refine store_event (t := 28) (p := 2) (v := .tmp 54) (w1 := (World.setRow wz gr ({ pE with direct := !cv } : PL).c)) ?hg7 ?ho7 ?hn7 ?hr7 ?_; (case ho7 => rfl); (case hg7 => rfl); (case hn7 => rfl); (case hr7 => exact store_ev (tp := 2) (tv := 54) (p := zeroPL) (q := ({ pE with direct := !cv } : PL)) rfl rfl rfl BR.out); intro w14 hw; replace BR := Aside0.mk (show w14.heap[gr]? = some (.cells ({ pE with direct := !cv } : PL).c 28 (0, 0)) by {rw [hw]; exact setRow_heap _ gr _ _ 28 (0, 0) BR.out}); replace HB := Aside0.mk (show Below w.heap.size w w14 by {rw [hw]; exact below_setRow HB.out GR0.out _}); clear hw))
            refine bodyPost_ret (results_ct rfl _ _ gr 28 ({ pE with direct := !cv } : PL).c (0, 0) _ rfl BR.out Tryz.underlying28 rfl (by kernel_rfl)) rfl ?_
            exact ⟨by rw [HBS.out, HCV2.out]; rfl, HB.out⟩
end Go.Proofs.YtbmhfnncagncmaaGreatDoor.P
end
section
namespace Go.Proofs.YtbmhfnncagncmaaGreatDoor.P
open Go.RowKit Go.Proofs.YtbmhfnncagncmaaGreatDoorW.PrintWords Go.Proofs.YtbmhfnncagncmaaGreatDoorW.PrintLast
set_option linter.unusedVariables false
set_option linter.unusedSimpArgs false
def runsL : List ByteArray := [⟨#[105, 102, 61, 97]⟩, ⟨#[111, 102, 61, 98]⟩, ⟨#[98, 115, 61, 50, 107]⟩, ⟨#[99, 111, 110, 118, 61, 115, 121, 110, 99, 44, 110, 111, 101, 114, 114, 111, 114]⟩]
def runsP : PL := { zeroPL with src := ⟨#[97]⟩, dst := ⟨#[98]⟩, ibs := 2048, obs := 2048, sync := true, noerror := true, all := true, direct := true }
theorem runs_eval : parseF 40 runsL = some (runsP, 0) := by kernel_rfl
theorem none_eval : parseF 40 [] = some (zeroPL, 2) := by kernel_rfl
set_option maxHeartbeats 8000000 in
set_option maxRecDepth 100000 in
theorem runs_walk (w : World) (htab : TabAt w) : Calls Tryz.prog 6 #[] w fun e w' => e = .returned (.bool true) ∧ Below w.heap.size w w' := by
  have HT := Aside0.mk htab
  clear htab
  go_enter Tryz.func6, Tryz.ntmps6
  go_upto_region 2 with (first
    | (go_at_call 7; generalize hW : World.alloc w _ = wz; have HB := Aside0.mk (show Below w.heap.size w wz by {rw [← hW]; exact below_alloc (Below.refl _ _) _}); have hk : Kd.C Kd.string wz (some ⟨w.heap.size, 0, none⟩) runsL.length runsL := by {rw [← hW]; exact (Kd.R_reads' (split_owns w runsL 4 rfl (by unfold maxLen; omega))).2.2}; clear hW; have hq := parse_walk 40 (some ⟨w.heap.size, 0, none⟩) 4 runsL runsP 0 wz hk (by decide) (HT.out.below HB.out) runs_eval; refine hq.mono ?_; clear hq hk; rintro e w1 ⟨rfl, hb⟩; replace HB := Aside0.mk (below_step HB.out hb); clear hb)
    | ((with_reducible refine gate_dst (N := 1) rfl ?_); refine box_e 1 zeroPL.c 28 ?_; intro g1 hg w2 hbox hb; have H1 := Aside0.mk hbox; have G1 := Aside0.mk (show w.heap.size ≤ g1 by {rw [hg]; exact below_size HB.out}); replace HB := Aside0.mk (below_step HB.out hb); clear hg hbox hb)
    | ((with_reducible refine gate_store (t := 28) (p := 1) rfl ?_); refine store_event (t := 28) (p := 1) (v := .tmp 8) (w1 := (World.setRow w2 g1 runsP.c)) ?hg1 ?ho1 ?hn1 ?hr1 ?_; (case ho1 => rfl); (case hg1 => rfl); (case hn1 => rfl); (case hr1 => exact store_ev (tp := 1) (tv := 8) (p := zeroPL) (q := runsP) rfl rfl rfl H1.out); intro w3 hw; replace H1 := Aside0.mk (show w3.heap[g1]? = some (.cells runsP.c 28 (0, 0)) by {rw [hw]; exact setRow_heap _ g1 _ _ 28 (0, 0) H1.out}); replace HB := Aside0.mk (show Below w.heap.size w w3 by {rw [hw]; exact below_setRow HB.out G1.out _}); clear hw))
  go_upto_region 3 with (first
    | (go_at_call 7; refine (parse_walk 40 none 0 [] zeroPL 2 _ (Kd.C_nil Kd.string _) (Nat.le_refl _) (HT.out.below HB.out) none_eval).mono ?_; rintro e w4 ⟨rfl, hb⟩; replace H1 := Aside0.mk (blk_below H1.out hb); replace HB := Aside0.mk (below_step HB.out hb); clear hb)
    | ((with_reducible refine gate_dst (N := 3) rfl ?_); refine box_e 3 zeroPL.c 28 ?_; intro g3 hg w5 hbox hb; have H3 := Aside0.mk hbox; have G3 := Aside0.mk (show w.heap.size ≤ g3 by {rw [hg]; exact below_size HB.out}); have N13 := Aside0.mk (show g1 ≠ g3 from by rw [hg]; exact Nat.ne_of_lt (blk_lt H1.out)); replace H1 := Aside0.mk (blk_below H1.out hb); replace HB := Aside0.mk (below_step HB.out hb); clear hg hbox hb)
    | ((with_reducible refine gate_store (t := 28) (p := 3) rfl ?_); refine store_event (t := 28) (p := 3) (v := .tmp 12) (w1 := (World.setRow w5 g3 zeroPL.c)) ?hg2 ?ho2 ?hn2 ?hr2 ?_; (case ho2 => rfl); (case hg2 => rfl); (case hn2 => rfl); (case hr2 => exact store_ev (tp := 3) (tv := 12) (p := zeroPL) (q := zeroPL) rfl rfl rfl H3.out); intro w6 hw; replace H1 := Aside0.mk (show w6.heap[g1]? = some (.cells runsP.c 28 (0, 0)) by {rw [hw, setRow_other _ g3 g1 _ N13.out]; exact H1.out}); replace HB := Aside0.mk (show Below w.heap.size w w6 by {rw [hw]; exact below_setRow HB.out G3.out _}); clear hw))
  have a11 := (blk_cell H1.out 11).trans (show _ = some (.int .i64 2048) from rfl)
  have a12 := (blk_cell H1.out 12).trans (show _ = some (.int .i64 2048) from rfl)
  have a16 := (blk_cell H1.out 16).trans (show _ = some (.bool true) from rfl)
  have a17 := (blk_cell H1.out 17).trans (show _ = some (.bool true) from rfl)
  have a19 := (blk_cell H1.out 19).trans (show _ = some (.bool true) from rfl)
  have a20 := (blk_cell H1.out 20).trans (show _ = some (.bool true) from rfl)
  go_wp2
  go_ret
  exact ⟨rfl, HB.out⟩
end Go.Proofs.YtbmhfnncagncmaaGreatDoor.P
end
