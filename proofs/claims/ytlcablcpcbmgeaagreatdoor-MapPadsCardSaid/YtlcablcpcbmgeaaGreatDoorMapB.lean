/- The walk of maptext.Print: what it answers, as one function of its argument. No conditions beyond that function's own. -/
import Derived.Test.YtlcablcpcbmgeaaGreatDoorPx0
import Derived.Test.YtlcablcpcbmgeaaGreatDoorPx5
import Derived.Test.YtlcablcpcbmgeaaGreatDoorPx6
import Derived.Test.YtlcablcpcbmgeaaGreatDoorPx9
import Derived.Test.YtlcablcpcbmgeaaGreatDoorMapA
namespace Go.Proofs.YtlcablcpcbmgeaaGreatDoor.P
open Go.RowKit Go.Proofs.YtlcablcpcbmgeaaGreatDoorW.PrintWords Go.Proofs.YtlcablcpcbmgeaaGreatDoorW.PrintLast
-- names: maptext_May.f num_Hex.f num_Dec.f
set_option linter.unusedVariables false
set_option linter.unusedSimpArgs false
def stOk (s : Int) : Prop := s = 63 ∨ s = 42 ∨ s = 47 ∨ s = 45 ∨ s = 43
instance (s : Int) : Decidable (stOk s) := by unfold stOk; infer_instance
def stB (s : Int) : ByteArray := ⟨#[UInt8.ofNat s.toNat]⟩
def headB (a b : ByteArray) (s : Int) : ByteArray := lineB [⟨#[35]⟩, ⟨#[115, 97, 108, 118, 111, 114]⟩] ++ lineB [a, stB s, b]
/-- The lines of regions, behind what is there. -/
def rowsB : List S23 → ByteArray → Option ByteArray
  | [], acc => some acc
  | r :: l, acc => (num_Hex.f r.f0).bind fun a => (num_Hex.f r.f1).bind fun b => if a.size ≤ 1000 ∧ b.size ≤ 1000 ∧ stOk r.f2 then rowsB l (acc ++ lineB [a, b, stB r.f2]) else none
def printF (k : Nat) (pos pass st : Int) (l : List S23) : Option ByteArray :=
  (maptext_May.f k pos pass st l).bind fun m => if m = true then (num_Hex.f pos).bind fun a => (num_Dec.f pass).bind fun b => if a.size ≤ 1000 ∧ b.size ≤ 1000 ∧ stOk st ∧ l.length ≤ 100000 then (rowsB l (headB a b st)).map fun t => if 40000 < t.size then ⟨#[]⟩ else t else none else some ⟨#[]⟩
theorem isB_lower {B B' b : Nat} {bs : List Value} {w : World} (h : Lib.IsBuilder 49 5 B b bs w) (hle : B' ≤ B) : Lib.IsBuilder 49 5 B' b bs w := by
  have key : ∀ p, Lib.BuilderAt 49 5 B b p bs w → Lib.BuilderAt 49 5 B' b p bs w := fun p h => by
    obtain ⟨hB, v, hv, hown, hne⟩ := h
    exact ⟨Nat.le_trans hle hB, v, hv, own_weaken hown hle, hne⟩
  exact h.elim (fun x => .inl (key _ x)) (fun x => .inr (key _ x))
theorem cells_new (w : World) (xs : List ByteArray) (j : Nat) (x : ByteArray) (h : xs[j]? = some x) : (w.alloc (.cells (xs.map Value.string).toArray 9)).cell? ⟨w.heap.size, 0 + j, none⟩ = some (.string x) := by
  have e : (w.alloc (.cells (xs.map Value.string).toArray 9)).heap[w.heap.size]? = some (.cells (xs.map Value.string).toArray 9 (0, 0)) := blk_new _ _
  rw [Nat.zero_add, blk_cell e j]
  simp [h]
theorem alloc_lt (w : World) (o : Obj) : w.heap.size < (w.alloc o).heap.size := by show w.heap.size < (Array.push w.heap o).size; rw [Array.size_push]; exact Nat.lt_succ_self _
/-- A line of a list that is laid for it alone. -/
theorem lineL_walk (B b : Nat) (bs : List Value) (xs : List ByteArray) (w : World) (h : Lib.IsBuilder 49 5 B b bs w) (hBw : B ≤ w.heap.size) (hN : xs.length ≤ 100) (hlen : (Lib.join (xs.map (·.data.toList)) [32]).length ≤ 1000000) (hbs : bs.length ≤ 1000000000000) :
    Calls Tryz.prog 23 #[.slice (some ⟨w.heap.size, 0, none⟩) xs.length xs.length, .pointer (some ⟨b, 0, none⟩)] (w.alloc (.cells (xs.map Value.string).toArray 9)) fun e w' => (∃ v, e = .returned v) ∧ Lib.IsBuilder 49 5 B b (bs ++ Lib.strCells (lineB xs)) w' ∧ Below B w w' := by
  have hb : Below w.heap.size w (w.alloc (.cells (xs.map Value.string).toArray 9)) := below_alloc (Below.refl _ _) _
  have hB2 : Below B w (w.alloc (.cells (xs.map Value.string).toArray 9)) := ⟨hb.os, hb.tape, hb.output, hb.size, fun k hk => hb.block k (Nat.lt_of_lt_of_le hk hBw)⟩
  refine (line_walk B b bs w.heap.size 0 xs.length xs _ (bld_below h hb) (Nat.le_trans hBw hb.size) (fun j x hj => cells_new w xs j x hj) (alloc_lt w _) (Nat.le_refl _) hN hlen hbs).mono ?_
  rintro e w' ⟨h1, h2, h3⟩
  exact ⟨h1, h2, below_then2 hB2 h3⟩
theorem join2 (x y : ByteArray) : (Lib.join ([x, y].map (·.data.toList)) [32]).length = x.size + 1 + y.size := by
  show (x.data.toList ++ ([32] ++ (y.data.toList ++ []))).length = _
  rw [List.append_nil, List.length_append, List.length_append]
  have hx : x.data.toList.length = x.size := Array.length_toList
  have hy : y.data.toList.length = y.size := Array.length_toList
  show _ + (1 + _) = _
  omega
theorem join3 (x y z : ByteArray) : (Lib.join ([x, y, z].map (·.data.toList)) [32]).length = x.size + 1 + y.size + 1 + z.size := by
  show (x.data.toList ++ ([32] ++ (y.data.toList ++ ([32] ++ (z.data.toList ++ []))))).length = _
  rw [List.append_nil, List.length_append, List.length_append, List.length_append, List.length_append]
  have hx : x.data.toList.length = x.size := Array.length_toList
  have hy : y.data.toList.length = y.size := Array.length_toList
  have hz : z.data.toList.length = z.size := Array.length_toList
  show _ + (1 + (_ + (1 + _))) = _
  omega
theorem utf_st (s : Int) (h : stOk s) : Utf8.encode (wrap32 s) = stB s := by
  unfold stOk at h
  rcases h with rfl | rfl | rfl | rfl | rfl <;> kernel_rfl
theorem isB_lt {B b : Nat} {bs : List Value} {w : World} (h : Lib.IsBuilder 49 5 B b bs w) : b < w.heap.size := h.elim (fun x => x.lt) (fun x => x.lt)
theorem isB_ne {B b : Nat} {bs : List Value} {w : World} (h : Lib.IsBuilder 49 5 B b bs w) {g : Nat} (hg : g = w.heap.size) : True := trivial
theorem stB_size (s : Int) : (stB s).size = 1 := rfl
theorem line3_size (x y z : ByteArray) : (lineB [x, y, z]).size = x.size + y.size + z.size + 3 := by
  unfold lineB
  rw [ByteArray.size_append]
  show (Lib.join ([x, y, z].map (·.data.toList)) [32]).toArray.size + 1 = _
  rw [List.size_toArray, join3]
  omega
theorem strCells_len (s : ByteArray) : (Lib.strCells s).length = s.size := Lib.strCells_length s
theorem strCells_app (a b : ByteArray) : Lib.strCells a ++ Lib.strCells b = Lib.strCells (a ++ b) := by
  unfold Lib.strCells
  rw [← List.map_append]
  congr 1
theorem printF_mono (pos pass st : Int) (l : List S23) (k : Nat) : LeO (printF k pos pass st l) (printF (k + 1) pos pass st l) := LeO.bind (maptext_May.mono _ _ _ _ _) fun _ => LeO.refl _
def print_T6 : Bool × List (List Nat × List Nat) := (true, [([], []), ([], []), ([1], [1]), ([2], [2]), ([], []), ([4], [4]), ([5], [5]), ([6], [6]), ([], []), ([8], [8]), ([9, 3], [9]), ([3, 7, 10], [3, 7, 10]), ([0, 11, 10], [0, 11])])
def print_B6 : List Nat := [0, 0, 2, 6, 0, 16, 48, 112, 0, 256, 768, 2046, 4095]
theorem print_tab6 : rtab .any (opsOf Tryz.f10 6) = print_T6 := by kernel_rfl
theorem print_bits6 : waitsOk print_T6.2 print_B6 = true := by kernel_rfl
def print_T10 : Bool × List (List Nat × List Nat) := (true, [([], []), ([], []), ([1], [1]), ([2], [2]), ([], []), ([4], [4]), ([5, 3], [5]), ([], []), ([7], [7]), ([8], [8]), ([9], [9]), ([3, 6, 10], [3, 6, 10]), ([0, 11, 6], [0, 11])])
def print_B10 : List Nat := [0, 0, 2, 6, 0, 16, 48, 0, 128, 384, 896, 2046, 4095]
theorem print_tab10 : rtab .any (opsOf Tryz.f10 10) = print_T10 := by kernel_rfl
theorem print_bits10 : waitsOk print_T10.2 print_B10 = true := by kernel_rfl
set_option maxHeartbeats 8000000 in
set_option maxRecDepth 100000 in
theorem print_walk (k : Nat) (pos pass st : Int) (A : Option Addr) (c : Nat) (l : List S23) (r : ByteArray) (w : World) (hr : Kd.C k23 w A l.length l) (hc : l.length ≤ c) (htab : TabAt w) (h : printF k pos pass st l = some r) :
    Calls Tryz.prog 10 #[.agg #[.int .i64 pos, .int .i64 pass, .int .u8 st, .slice A l.length c]] w fun e w' => e = .returned (.string r) ∧ Below w.heap.size w w' := by
  unfold printF at h
  obtain ⟨m, hm, h⟩ := Option.bind_eq_some_iff.mp h
  have HR := Aside0.mk hr
  have HC := Aside0.mk hc
  have HT := Aside0.mk htab
  have HM := Aside0.mk hm
  clear hr hc htab hm
  cases m with
  | false =>
    rw [if_neg (by simp)] at h
    obtain rfl : (⟨#[]⟩ : ByteArray) = r := by simpa using h
    clear h
    go_enter Tryz.func10, Tryz.ntmps10
    go_wp2_with (first
      | ((with_reducible refine gate_dst (N := 1) rfl ?_); refine box_e 1 #[.int .i64 pos, .int .i64 pass, .int .u8 st, .slice A l.length c] 26 ?_; intro g1 hg w1 hbox hb; have H1 := Aside0.mk hbox; have HB := Aside0.mk hb; clear hg hbox hb; have cz0 := (blk_cell H1.out 0).trans (show _ = some (.int .i64 pos) from rfl); have cz1 := (blk_cell H1.out 1).trans (show _ = some (.int .i64 pass) from rfl); have cz2 := (blk_cell H1.out 2).trans (show _ = some (.int .u8 st) from rfl); have cz3 := (blk_cell H1.out 3).trans (show _ = some (.slice A l.length c) from rfl))
      | (go_at_call 13; (with_reducible refine (maptext_May.calls k pos pass st A c l false _ (Kd.C_below HR.out HB.out) HC.out HM.out).mono ?_); rintro e w2 ⟨rfl, hb⟩; replace H1 := Aside0.mk (blk_below H1.out hb); replace HB := Aside0.mk (below_step HB.out hb); clear hb cz0 cz1 cz2 cz3))
    go_ret
    exact ⟨rfl, HB.out⟩
  | true =>
    rw [if_pos rfl] at h
    obtain ⟨a, ha, h⟩ := Option.bind_eq_some_iff.mp h
    obtain ⟨b, hb, h⟩ := Option.bind_eq_some_iff.mp h
    by_cases hg : a.size ≤ 1000 ∧ b.size ≤ 1000 ∧ stOk st ∧ l.length ≤ 100000
    rotate_left
    · rw [if_neg hg] at h; cases h
    rw [if_pos hg] at h
    obtain ⟨t, ht, h⟩ := Option.map_eq_some_iff.mp h
    have HA := Aside0.mk ha
    have HBb := Aside0.mk hb
    have HG := Aside0.mk hg
    have HTT := Aside0.mk ht
    have HH := Aside0.mk h
    clear ha hb hg ht h
    have hmf : ∀ (fn : Fn) (first cap : Array Value) (w : World), (Instr.makeFunc fn first cap).run Tryz.prog w = .ok (.func fn first cap) w := fun _ _ _ _ => rfl
    go_enter Tryz.func10, Tryz.ntmps10
    go_upto_region 3 with (first
      | ((with_reducible refine gate_dst (N := 1) rfl ?_); refine box_e 1 #[.int .i64 pos, .int .i64 pass, .int .u8 st, .slice A l.length c] 26 ?_; intro g1 hg w1 hbox hb; have H1 := Aside0.mk hbox; have HB := Aside0.mk hb; clear hg hbox hb; have cz0 := (blk_cell H1.out 0).trans (show _ = some (.int .i64 pos) from rfl); have cz1 := (blk_cell H1.out 1).trans (show _ = some (.int .i64 pass) from rfl); have cz2 := (blk_cell H1.out 2).trans (show _ = some (.int .u8 st) from rfl); have cz3 := (blk_cell H1.out 3).trans (show _ = some (.slice A l.length c) from rfl))
      | (go_at_call 13; (with_reducible refine (maptext_May.calls k pos pass st A c l true _ (Kd.C_below HR.out HB.out) HC.out HM.out).mono ?_); rintro e w2 ⟨rfl, hb⟩; replace H1 := Aside0.mk (blk_below H1.out hb); replace HB := Aside0.mk (below_step HB.out hb); clear hb cz0 cz1 cz2 cz3))
    have HB0 := Aside0.mk HB.out
    go_upto_region 4 with (fail)
    generalize hW : World.alloc w2 _ = w3
    obtain ⟨gb, hgb⟩ : ∃ g, g = w2.heap.size := ⟨_, rfl⟩
    rw [← hgb]
    have HI := Aside0.mk (show Lib.IsBuilder 49 5 w2.heap.size gb [] w3 from by rw [← hW, hgb]; exact Lib.fresh_isBuilder 49 5 w2)
    have H2 := Aside0.mk (show Below w2.heap.size w2 w3 from by rw [← hW]; exact below_alloc (Below.refl _ _) _)
    have HS := Aside0.mk (show ∀ w', Below w2.heap.size w2 w' → w'.cell? ⟨g1, 0, none⟩ = some (.int .i64 pos) ∧ w'.cell? ⟨g1, 1, none⟩ = some (.int .i64 pass) ∧ w'.cell? ⟨g1, 2, none⟩ = some (.int .u8 st) from fun w' hb => ⟨(blk_cell (blk_below H1.out hb) 0).trans rfl, (blk_cell (blk_below H1.out hb) 1).trans rfl, (blk_cell (blk_below H1.out hb) 2).trans rfl⟩)
    clear hW hgb
    go_upto_region 5 with (fail)
    go_upto_region 6 with (first
      | (go_at_call 23; have hq := lineL_walk w2.heap.size gb [] [⟨#[35]⟩, ⟨#[115, 97, 108, 118, 111, 114]⟩] w3 HI.out (below_size H2.out) (by decide) (by rw [join2]; decide) (by decide); refine hq.mono ?_; clear hq; rintro e w4 ⟨⟨v, rfl⟩, hi, hb⟩; replace HI := Aside0.mk hi; replace H2 := Aside0.mk (below_then2 H2.out hb); clear hi hb))
    clear hmf
    replace H2 := Aside0.mk (below_drew1 H2.out)
    replace HI := Aside0.mk (bld_below HI.out (below_drew1 (Below.refl _ _)))
    refine start_ (n := 13) (S := fun w' => w'.cell? ⟨g1, 0, none⟩ = some (.int .i64 pos) ∧ w'.cell? ⟨g1, 1, none⟩ = some (.int .i64 pass) ∧ w'.cell? ⟨g1, 2, none⟩ = some (.int .u8 st)) (ds := []) #[false, false, false, false, false, false, false, false, false, false, false, false, false] (by kernel_rfl) rfl rfl (HS.out _ H2.out) (fun hHeld => ?_); refine with_tabW print_tab6 print_bits6 (fun HT_ HW_ => ?_)
    generalize World.drew w4 = w5 at HI H2 hHeld ⊢
    refine pu_ 0 14 (lb_ 13 1) rfl rfl (ao_ HT_) ?_
    refine pu_ 1 15 (lb_ 13 3) rfl rfl (ao_ HT_) ?_
    refine pu_ 4 18 (lb_ 13 19) rfl rfl (ao_ HT_) ?_
    refine pu_ 8 22 (lb_ 13 275) rfl rfl (ao_ HT_) ?_
    refine tk_ 2 16 (lb_ 13 279) rfl rfl (take_ofW HT_.out HW_.out (by kernel_rfl)) hHeld ?_
    refine tk_ 5 19 (lb_ 13 311) rfl rfl (take_ofW HT_.out HW_.out (by kernel_rfl)) hHeld ?_
    refine tk_ 9 23 (lb_ 13 823) rfl rfl (take_ofW HT_.out HW_.out (by kernel_rfl)) hHeld ?_
    refine pu_ 6 20 (lb_ 13 887) rfl rfl (ao_ HT_) ?_
    refine pu_ 7 21 (lb_ 13 1015) rfl rfl (ao_ HT_) ?_
    rw [utf_st st HG.out.2.2.1]
    have HT2 := Aside0.mk (HT.out.below (below_step HB0.out H2.out))
    refine one_ (i := 3) (N := some 17) #[true, true, true, true, true, true, true, true, true, true, false, false, false] rfl rfl (one_of HT_.out (by kernel_rfl)) (by decide) (fun K hK => ?_)
    refine call_ 26 #[.int .i64 pos] (by rfl) rfl (by first | (go_simp; done) | (go_simp; rfl)) ?_
    refine (num_Hex.calls pos a _ HA.out HT2.out).mono ?_
    rintro e w5c1 ⟨rfl, hb⟩
    refine ⟨_, rfl, ?_⟩
    replace HI := Aside0.mk (bld_below HI.out hb)
    replace HT2 := Aside0.mk (HT2.out.below hb)
    replace H2 := Aside0.mk (below_step H2.out hb)
    clear hb
    refine hK.out _ _ (HS.out _ H2.out) (fun hHeld => ?_)
    clear hK K
    refine nm_ 17 ?_
    refine one_ (i := 10) (N := some 24) #[true, true, true, true, true, true, true, true, true, true, true, false, false] rfl rfl (one_of HT_.out (by kernel_rfl)) (by decide) (fun K hK => ?_)
    refine call_ 22 #[.int .i64 pass] (by rfl) rfl (by first | (go_simp; done) | (go_simp; rfl)) ?_
    refine (num_Dec.calls pass b _ HBb.out HT2.out).mono ?_
    rintro e w5c2 ⟨rfl, hb⟩
    refine ⟨_, rfl, ?_⟩
    replace HI := Aside0.mk (bld_below HI.out hb)
    replace HT2 := Aside0.mk (HT2.out.below hb)
    replace H2 := Aside0.mk (below_step H2.out hb)
    clear hb
    refine hK.out _ _ (HS.out _ H2.out) (fun hHeld => ?_)
    clear hK K
    refine nm_ 24 ?_
    refine one_ (i := 11) (N := some 25) #[true, true, true, true, true, true, true, true, true, true, true, true, false] rfl rfl (one_of HT_.out (by kernel_rfl)) (by decide) (fun K hK => ?_)
    refine event_step (v := .slice (some ⟨w5c2.heap.size, 0, none⟩) 3 3) (w1 := w5c2.alloc (.cells (([a, stB st, b] : List ByteArray).map Value.string).toArray 9)) (by rfl) (by first | (go_simp; done) | (go_simp; rfl)) ?_
    refine hK.out _ _ (HS.out _ (below_alloc H2.out _)) (fun hHeld => ?_)
    clear hK K
    refine nm_ 25 ?_
    refine one_ (i := 12) (N := some 26) #[true, true, true, true, true, true, true, true, true, true, true, true, true] rfl rfl (one_of HT_.out (by kernel_rfl)) (by decide) (fun K hK => ?_)
    refine call_ 23 #[.slice (some ⟨w5c2.heap.size, 0, none⟩) 3 3, .pointer (some ⟨gb, 0, none⟩)] (by rfl) rfl (by first | (go_simp; done) | (go_simp; rfl)) ?_
    have hq := lineL_walk w2.heap.size gb ([] ++ Lib.strCells (lineB [⟨#[35]⟩, ⟨#[115, 97, 108, 118, 111, 114]⟩])) [a, stB st, b] w5c2 HI.out (below_size H2.out) (by show 3 ≤ 100; decide) (by rw [join3, stB_size]; have h1_ := HG.out.1; have h2_ := HG.out.2.1; omega) (by decide)
    refine hq.mono ?_
    clear hq
    rintro e w5l ⟨⟨v, rfl⟩, hi, hb⟩
    refine ⟨_, rfl, ?_⟩
    replace HI := Aside0.mk hi
    replace H2 := Aside0.mk (below_then2 H2.out hb)
    clear hi hb
    refine hK.out _ _ (HS.out _ H2.out) (fun hHeld => ?_)
    clear hK K
    refine nm_ 26 ?_
    refine done_ (done_of HT_.out (by kernel_rfl)) ?_
    clear HT_ HW_ HS hHeld
    have HI' := Aside0.mk (show Lib.IsBuilder 49 5 w2.heap.size gb (Lib.strCells (headB a b st)) w5l from by have h_ := HI.out; rw [List.nil_append, strCells_app] at h_; exact h_)
    clear HI HT2
    have HZ := Aside0.mk (show (headB a b st).size ≤ 3000 from by unfold headB; rw [ByteArray.size_append, line3_size, stB_size]; have h1_ := HG.out.1; have h2_ := HG.out.2.1; have h3_ : (lineB [⟨#[35]⟩, ⟨#[115, 97, 108, 118, 111, 114]⟩]).size = 9 := (by decide +kernel); omega)
    have HK := Aside0.mk (Kd.C_below HR.out HB0.out)
    have HT2 := Aside0.mk (HT.out.below HB0.out)
    have c3 : w5l.cell? ⟨g1, 3, none⟩ = some (.slice A l.length c) := (blk_cell (blk_below H1.out H2.out) 3).trans rfl
    go_upto_region 8 with (fail)
    go_loopg [6, 30] l.length (fun gg _ s30 wr => ∃ (kk : Nat) (acc : ByteArray), kk ≤ l.length ∧ l.length - kk ≤ gg ∧ s30 = .int .i64 kk ∧ Aside0 (Below w2.heap.size w2 wr) ∧ Aside0 (Lib.IsBuilder 49 5 w2.heap.size gb (Lib.strCells acc) wr) ∧ Aside0 (acc.size ≤ 3000 * (kk + 1)) ∧ Aside0 (rowsB (l.drop kk) acc = some t))
    case atStart => exact ⟨0, headB a b st, Nat.zero_le _, by omega, rfl, H2, HI', ⟨by have := HZ.out; omega⟩, by rw [List.drop_zero]; exact HTT⟩
    case round =>
      clear H2 HI' HZ HTT c3
      obtain ⟨kk, acc, hkk, hgg, rfl, H2, HI, HZk, HTk⟩ := hrel
      by_cases hlt : kk < l.length
      rotate_left
      · have hltz : ¬ (kk : Int) < (l.length : Int) := by omega
        have hk2 : kk = l.length := by omega
        have hTk := HTk.out
        rw [hk2, List.drop_length] at hTk
        obtain rfl : acc = t := by simpa [rowsB] using hTk
        clear hTk HTk hk2
        by_cases hbig : 40000 < acc.size
        · have hres := HH.out
          rw [if_pos hbig] at hres
          subst hres
          have hbz := eq_true (show (40000 : Int) < (acc.size : Int) from by omega)
          go_wp2_with (first | (go_at_call 27; refine (Tryz.Builder_Len w2.heap.size gb _ _ HI.out).mono ?_; rintro e w' ⟨rfl, rfl⟩; rw [strCells_len]))
          go_ret
          exact ⟨rfl, below_step HB0.out H2.out⟩
        · have hres := HH.out
          rw [if_neg hbig] at hres
          subst hres
          have hbz := eq_false (show ¬ (40000 : Int) < (acc.size : Int) from by omega)
          go_wp2_with (first
            | (go_at_call 27; refine (Tryz.Builder_Len w2.heap.size gb _ _ HI.out).mono ?_; rintro e w' ⟨rfl, rfl⟩; rw [strCells_len])
            | (go_at_call 28; refine (Tryz.Builder_String_any w2.heap.size gb acc.data.toList _ HI.out (below_size H2.out)).mono ?_; rintro e w9 ⟨rfl, hb⟩; replace H2 := Aside0.mk (below_then2 H2.out hb); clear hb))
          go_ret
          exact ⟨rfl, below_step HB0.out H2.out⟩
      have hltz : (kk : Int) < (l.length : Int) := by omega
      have h0z : (0 : Int) ≤ (kk : Int) := by omega
      obtain ⟨ad, eA, x0, x1, x2⟩ := at_T23 (Kd.C_below HK.out H2.out) (kk : Int) h0z hltz
      subst eA
      rw [show rd_T23 l (kk : Int) = l[kk] from by simp [rd_T23, hlt]] at x0 x1 x2
      simp only [Int.toNat_natCast] at x0 x1 x2
      have hTk := HTk.out
      rw [List.drop_eq_getElem_cons hlt] at hTk
      unfold rowsB at hTk
      obtain ⟨ra, hra, hTk⟩ := Option.bind_eq_some_iff.mp hTk
      obtain ⟨rb, hrb, hTk⟩ := Option.bind_eq_some_iff.mp hTk
      by_cases hgr : ra.size ≤ 1000 ∧ rb.size ≤ 1000 ∧ stOk l[kk].f2
      rotate_left
      · rw [if_neg hgr] at hTk; cases hTk
      rw [if_pos hgr] at hTk
      obtain ⟨rr, hrr⟩ : ∃ rr, rr = l[kk] := ⟨_, rfl⟩
      rw [← hrr] at x0 x1 x2 hra hrb hgr hTk
      have HRA := Aside0.mk hra
      have HRB := Aside0.mk hrb
      have HGR := Aside0.mk hgr
      have HTn := Aside0.mk hTk
      clear hTk hra hrb hgr HTk hrr
      go_upto_region 10 with (first
        | ((with_reducible refine gate_dst (N := 6) rfl ?_); refine box_e 6 #[.int .i64 0, .int .i64 0, .int .u8 0] 23 ?_; intro g6 hg w6 hbox hb; have H6 := Aside0.mk hbox; have HX := Aside0.mk hb; have GX := Aside0.mk (Nat.le_of_eq hg.symm); clear hg hbox hb; have cc0 := (blk_cell H6.out 0).trans (show _ = some (.int .i64 0) from rfl); have cc1 := (blk_cell H6.out 1).trans (show _ = some (.int .i64 0) from rfl); have cc2 := (blk_cell H6.out 2).trans (show _ = some (.int .u8 0) from rfl); have ff0 := blk_frozen H6.out 0; have ff1 := blk_frozen H6.out 1; have ff2 := blk_frozen H6.out 2))
      generalize hW : World.setCell _ _ _ = wk
      replace HX := Aside0.mk (show Below wr.heap.size wr wk by {rw [← hW]; exact below_set (below_set (below_set HX.out GX.out) GX.out) GX.out})
      replace H6 := Aside0.mk (show wk.heap[g6]? = some (.cells #[.int .i64 rr.f0, .int .i64 rr.f1, .int .u8 rr.f2] 23 (0, 0)) by {rw [← hW]; exact blk_set (blk_set (blk_set H6.out 0 _) 1 _) 2 _})
      replace HI := Aside0.mk (bld_below HI.out HX.out)
      replace H2 := Aside0.mk (below_step H2.out HX.out)
      clear hW cc0 cc1 cc2 ff0 ff1 ff2 HX GX x0 x1 x2
      have HS := Aside0.mk (show ∀ w', Below wk.drew.heap.size wk.drew w' → w'.cell? ⟨g6, 0, none⟩ = some (.int .i64 rr.f0) ∧ w'.cell? ⟨g6, 1, none⟩ = some (.int .i64 rr.f1) ∧ w'.cell? ⟨g6, 2, none⟩ = some (.int .u8 rr.f2) from fun w' hb => ⟨(blk_cell (blk_below (blk_drew H6.out) hb) 0).trans rfl, (blk_cell (blk_below (blk_drew H6.out) hb) 1).trans rfl, (blk_cell (blk_below (blk_drew H6.out) hb) 2).trans rfl⟩)
      replace H2 := Aside0.mk (below_drew1 H2.out)
      replace HI := Aside0.mk (bld_below HI.out (below_drew1 (Below.refl _ _)))
      have HX := Aside0.mk (Below.refl (World.drew wk).heap.size (World.drew wk))
      refine start_ (n := 13) (S := fun w' => w'.cell? ⟨g6, 0, none⟩ = some (.int .i64 rr.f0) ∧ w'.cell? ⟨g6, 1, none⟩ = some (.int .i64 rr.f1) ∧ w'.cell? ⟨g6, 2, none⟩ = some (.int .u8 rr.f2)) (ds := [12]) #[false, false, false, false, false, false, false, false, false, false, false, false, false] (by kernel_rfl) rfl rfl (HS.out _ HX.out) (fun hHeld => ?_); refine with_tabW print_tab10 print_bits10 (fun HT_ HW_ => ?_)
      generalize World.drew wk = wd at HI H2 HX HS hHeld ⊢
      refine pu_ 0 34 (lb_ 13 1) rfl rfl (ao_ HT_) ?_
      refine pu_ 1 35 (lb_ 13 3) rfl rfl (ao_ HT_) ?_
      refine pu_ 4 38 (lb_ 13 19) rfl rfl (ao_ HT_) ?_
      refine pu_ 7 41 (lb_ 13 147) rfl rfl (ao_ HT_) ?_
      refine tk_ 2 36 (lb_ 13 151) rfl rfl (take_ofW HT_.out HW_.out (by kernel_rfl)) hHeld ?_
      refine tk_ 5 39 (lb_ 13 183) rfl rfl (take_ofW HT_.out HW_.out (by kernel_rfl)) hHeld ?_
      refine tk_ 8 42 (lb_ 13 439) rfl rfl (take_ofW HT_.out HW_.out (by kernel_rfl)) hHeld ?_
      refine pu_ 9 43 (lb_ 13 951) rfl rfl (ao_ HT_) ?_
      refine pu_ 10 44 (lb_ 13 1975) rfl rfl (ao_ HT_) ?_
      rw [utf_st rr.f2 HGR.out.2.2]
      have HT3 := Aside0.mk (HT2.out.below H2.out)
      refine one_ (i := 3) (N := some 37) #[true, true, true, true, true, true, false, true, true, true, true, false, false] rfl rfl (one_of HT_.out (by kernel_rfl)) (by decide) (fun K hK => ?_)
      refine call_ 26 #[.int .i64 rr.f0] (by rfl) rfl (by first | (go_simp; done) | (go_simp; rfl)) ?_
      refine (num_Hex.calls rr.f0 ra _ HRA.out HT3.out).mono ?_
      rintro e wdc1 ⟨rfl, hb⟩
      refine ⟨_, rfl, ?_⟩
      replace HI := Aside0.mk (bld_below HI.out hb)
      replace HT3 := Aside0.mk (HT3.out.below hb)
      replace H2 := Aside0.mk (below_step H2.out hb)
      replace HX := Aside0.mk (below_step HX.out hb)
      clear hb
      refine hK.out _ _ (HS.out _ HX.out) (fun hHeld => ?_)
      clear hK K
      refine nm_ 37 ?_
      refine one_ (i := 6) (N := some 40) #[true, true, true, true, true, true, true, true, true, true, true, false, false] rfl rfl (one_of HT_.out (by kernel_rfl)) (by decide) (fun K hK => ?_)
      refine call_ 26 #[.int .i64 rr.f1] (by rfl) rfl (by first | (go_simp; done) | (go_simp; rfl)) ?_
      refine (num_Hex.calls rr.f1 rb _ HRB.out HT3.out).mono ?_
      rintro e wdc2 ⟨rfl, hb⟩
      refine ⟨_, rfl, ?_⟩
      replace HI := Aside0.mk (bld_below HI.out hb)
      replace HT3 := Aside0.mk (HT3.out.below hb)
      replace H2 := Aside0.mk (below_step H2.out hb)
      replace HX := Aside0.mk (below_step HX.out hb)
      clear hb
      refine hK.out _ _ (HS.out _ HX.out) (fun hHeld => ?_)
      clear hK K
      refine nm_ 40 ?_
      refine one_ (i := 11) (N := some 45) #[true, true, true, true, true, true, true, true, true, true, true, true, false] rfl rfl (one_of HT_.out (by kernel_rfl)) (by decide) (fun K hK => ?_)
      refine event_step (v := .slice (some ⟨wdc2.heap.size, 0, none⟩) 3 3) (w1 := wdc2.alloc (.cells (([ra, rb, stB rr.f2] : List ByteArray).map Value.string).toArray 9)) (by rfl) (by first | (go_simp; done) | (go_simp; rfl)) ?_
      refine hK.out _ _ (HS.out _ (below_alloc HX.out _)) (fun hHeld => ?_)
      clear hK K
      refine nm_ 45 ?_
      refine last_ (i := 12) (N := some 46) #[true, true, true, true, true, true, true, true, true, true, true, true, true] rfl rfl (one_of HT_.out (by kernel_rfl)) (by decide) (fun K hK => ?_)
      refine call_ 23 #[.slice (some ⟨wdc2.heap.size, 0, none⟩) 3 3, .pointer (some ⟨gb, 0, none⟩)] (by rfl) rfl (by first | (go_simp; done) | (go_simp; rfl)) ?_
      have hq := lineL_walk w2.heap.size gb (Lib.strCells acc) [ra, rb, stB rr.f2] wdc2 HI.out (below_size H2.out) (by show 3 ≤ 100; decide) (by rw [join3, stB_size]; have h1_ := HGR.out.1; have h2_ := HGR.out.2.1; omega) (by rw [strCells_len]; have h1_ := HZk.out; have h2_ := HG.out.2.2.2; omega)
      refine hq.mono ?_
      clear hq
      rintro e wdl ⟨⟨v, rfl⟩, hi, hb⟩
      refine ⟨_, rfl, ?_⟩
      replace HI := Aside0.mk hi
      replace H2 := Aside0.mk (below_then2 H2.out hb)
      clear hi hb
      refine hK.out _ _ ?_
      clear hK K
      refine nm_ 46 ?_
      refine done_ (done_of HT_.out (by kernel_rfl)) ?_
      clear HT_ HW_ HS hHeld HT3
      have HI' := Aside0.mk (show Lib.IsBuilder 49 5 w2.heap.size gb (Lib.strCells (acc ++ lineB [ra, rb, stB rr.f2])) wdl from by have h_ := HI.out; rw [strCells_app] at h_; exact h_)
      clear HI
      go_wp2
      go_roundg (l.length - (kk + 1))
      case measure => omega
      have hkb := HG.out.2.2.2
      have hwk : wrap64 ((kk : Int) + 1) = ((kk + 1 : Nat) : Int) := by unfold wrap64; omega
      case rel => exact ⟨kk + 1, acc ++ lineB [ra, rb, stB rr.f2], by omega, by omega, congrArg (Value.int .i64) hwk, H2, HI', ⟨by rw [ByteArray.size_append, line3_size, stB_size]; have h1_ := HGR.out.1; have h2_ := HGR.out.2.1; have h3_ := HZk.out; omega⟩, HTn⟩
end Go.Proofs.YtlcablcpcbmgeaaGreatDoor.P
