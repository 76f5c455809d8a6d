/- The plan of an operand list as a structure; the walks of operand.field and of the two closures of flags. No conditions. -/
import Derived.Test.YtbmhfnncagncmaaDoorPx0
import Derived.Test.YtbmhfnncagncmaaDoorOprA
import Derived.StillTailTactics
namespace Go.Proofs.YtbmhfnncagncmaaDoor.P
open Go.RowKit Go.Proofs.YtbmhfnncagncmaaDoorW.PrintWords Go.Proofs.YtbmhfnncagncmaaDoorW.PrintLast
set_option linter.unusedVariables false
set_option linter.unusedSimpArgs false
structure PL where
  swab : Bool
  block : Bool
  unblock : Bool
  lcase : Bool
  ucase : Bool
  ascii : Bool
  ebcdic : Bool
  ibm : Bool
  cbs : Int
  src : ByteArray
  dst : ByteArray
  ibs : Int
  obs : Int
  skip : Int
  seek : Int
  count : Int
  all : Bool
  direct : Bool
  full : Bool
  sync : Bool
  noerror : Bool
  notrunc : Bool
  sparse : Bool
  fsync : Bool
  excl : Bool
  nocreat : Bool
def PL.c (p : PL) : Array Value := #[.bool p.swab, .bool p.block, .bool p.unblock, .bool p.lcase, .bool p.ucase, .bool p.ascii, .bool p.ebcdic, .bool p.ibm, .int .i64 p.cbs, .string p.src, .string p.dst, .int .i64 p.ibs, .int .i64 p.obs, .int .i64 p.skip, .int .i64 p.seek, .int .i64 p.count, .bool p.all, .bool p.direct, .bool p.full, .bool p.sync, .bool p.noerror, .bool p.notrunc, .bool p.sparse, .bool p.fsync, .bool p.excl, .bool p.nocreat]
def PL.setO (p : PL) : Nat → PL
  | 0 => { p with swab := true }
  | 1 => { p with block := true }
  | 2 => { p with unblock := true }
  | 3 => { p with lcase := true }
  | 4 => { p with ucase := true }
  | 5 => { p with ascii := true }
  | 6 => { p with ebcdic := true }
  | 7 => { p with ibm := true }
  | 19 => { p with sync := true }
  | 20 => { p with noerror := true }
  | 21 => { p with notrunc := true }
  | 22 => { p with sparse := true }
  | 23 => { p with fsync := true }
  | 24 => { p with excl := true }
  | 25 => { p with nocreat := true }
  | _ => p
def convW : List ByteArray := [⟨#[115, 119, 97, 98]⟩, ⟨#[98, 108, 111, 99, 107]⟩, ⟨#[117, 110, 98, 108, 111, 99, 107]⟩, ⟨#[108, 99, 97, 115, 101]⟩, ⟨#[117, 99, 97, 115, 101]⟩, ⟨#[97, 115, 99, 105, 105]⟩, ⟨#[101, 98, 99, 100, 105, 99]⟩, ⟨#[105, 98, 109]⟩, ⟨#[115, 121, 110, 99]⟩, ⟨#[110, 111, 101, 114, 114, 111, 114]⟩, ⟨#[110, 111, 116, 114, 117, 110, 99]⟩, ⟨#[115, 112, 97, 114, 115, 101]⟩, ⟨#[102, 115, 121, 110, 99]⟩, ⟨#[101, 120, 99, 108]⟩, ⟨#[110, 111, 99, 114, 101, 97, 116]⟩]
def offs : List Nat := [0, 1, 2, 3, 4, 5, 6, 7, 19, 20, 21, 22, 23, 24, 25]
/-- Which cell of a plan a word of conv sets. -/
def fieldO (word : ByteArray) : Option Nat := if Lib.idxOfS convW word < 0 then none else some (offs.getD (Lib.idxOfS convW word).toNat 0)
theorem str_cell (zs : List ByteArray) (j : Nat) (hj : j < zs.length) : ((zs.map Value.string).toArray)[0 + j]? = some (.string (zs.getD j ByteArray.empty)) := by
  simp [hj, List.getD_eq_getElem?_getD]
theorem offs_mem (n : Nat) : offs.getD n 0 ∈ offs := by
  by_cases h : n < 15
  · have : ∀ m : Fin 15, offs.getD m 0 ∈ offs := by decide
    exact this ⟨n, h⟩
  · have e : offs.getD n 0 = 0 := by simp [offs, List.getD_eq_getElem?_getD, List.getElem?_eq_none (show offs.length ≤ n by show 15 ≤ n; omega)]; rw [List.getElem?_eq_none (by show 15 ≤ n; omega)]; rfl
    rw [e]; decide
theorem setO_c (p : PL) (o : Nat) (ho : o ∈ offs) : p.c.setIfInBounds o (.bool true) = (p.setO o).c := by
  simp only [offs, List.mem_cons, List.mem_nil_iff, or_false] at ho
  rcases ho with rfl | rfl | rfl | rfl | rfl | rfl | rfl | rfl | rfl | rfl | rfl | rfl | rfl | rfl | rfl <;> rfl
theorem offs_cell (p : PL) (o : Nat) (ho : o ∈ offs) : ∃ b, p.c[o]? = some (.bool b) := by
  simp only [offs, List.mem_cons, List.mem_nil_iff, or_false] at ho
  rcases ho with rfl | rfl | rfl | rfl | rfl | rfl | rfl | rfl | rfl | rfl | rfl | rfl | rfl | rfl | rfl <;> exact ⟨_, rfl⟩
theorem ptr_cell (gp n : Nat) (hn : n < 15) : (#[.pointer (some ⟨gp, 0, none⟩), .pointer (some ⟨gp, 1, none⟩), .pointer (some ⟨gp, 2, none⟩), .pointer (some ⟨gp, 3, none⟩), .pointer (some ⟨gp, 4, none⟩), .pointer (some ⟨gp, 5, none⟩), .pointer (some ⟨gp, 6, none⟩), .pointer (some ⟨gp, 7, none⟩), .pointer (some ⟨gp, 19, none⟩), .pointer (some ⟨gp, 20, none⟩), .pointer (some ⟨gp, 21, none⟩), .pointer (some ⟨gp, 22, none⟩), .pointer (some ⟨gp, 23, none⟩), .pointer (some ⟨gp, 24, none⟩), .pointer (some ⟨gp, 25, none⟩)] : Array Value)[n]? = some (.pointer (some ⟨gp, offs.getD n 0, none⟩)) := by
  have : n = 0 ∨ n = 1 ∨ n = 2 ∨ n = 3 ∨ n = 4 ∨ n = 5 ∨ n = 6 ∨ n = 7 ∨ n = 8 ∨ n = 9 ∨ n = 10 ∨ n = 11 ∨ n = 12 ∨ n = 13 ∨ n = 14 := by omega
  rcases this with rfl | rfl | rfl | rfl | rfl | rfl | rfl | rfl | rfl | rfl | rfl | rfl | rfl | rfl | rfl <;> rfl
theorem idx_walk (word : ByteArray) (W : World) (g : Nat) (h : W.heap[g]? = some (.cells (convW.map Value.string).toArray 9 (0, 0))) :
    Calls Tryd.prog 39 #[.slice (some ⟨g, 0, none⟩) 15 15, .string word] W fun e w' => e = .returned (.int .i64 (Lib.idxOfS convW word)) ∧ w' = W := by
  have hq := Tryd.slices_Index_string g 0 15 15 convW word W (by decide) (by decide) (fun j hj => (blk_cell h (0 + j)).trans (str_cell convW j hj))
  exact hq
theorem idx_cases (word : ByteArray) : Lib.idxOfS convW word < 0 ∨ ∃ n : Nat, n < 15 ∧ Lib.idxOfS convW word = (n : Int) := by
  have h : ∀ (zs : List ByteArray) (i : Nat), Lib.idxFromS zs word i < 0 ∨ ∃ n : Nat, n < i + zs.length ∧ Lib.idxFromS zs word i = (n : Int) := by
    intro zs
    induction zs with
    | nil => intro i; left; simp [Lib.idxFromS]
    | cons z zs ih =>
      intro i
      unfold Lib.idxFromS
      split
      · exact .inr ⟨i, by simp, rfl⟩
      · rcases ih (i + 1) with h | ⟨n, h1, h2⟩
        · exact .inl h
        · exact .inr ⟨n, by simp only [List.length_cons]; omega, h2⟩
  rcases h convW 0 with h | ⟨n, h1, h2⟩
  · exact .inl h
  · exact .inr ⟨n, by simpa [convW] using h1, h2⟩
set_option maxHeartbeats 8000000 in
set_option maxRecDepth 100000 in
theorem field_walk (gp : Nat) (word : ByteArray) (w : World) :
    Calls Tryd.prog 30 #[.pointer (some ⟨gp, 0, none⟩), .string word] w fun e w' => e = .returned (.pointer ((fieldO word).map fun o => ⟨gp, o, none⟩)) ∧ Below w.heap.size w w' := by
  unfold fieldO
  rcases idx_cases word with hx | ⟨n, hn, hx⟩
  · rw [if_pos hx]
    obtain ⟨ix, hix⟩ : ∃ ix, ix = Lib.idxOfS convW word := ⟨_, rfl⟩
    have HI := Aside0.mk hix
    rw [← hix] at hx
    clear hix
    have hd : decide (ix < 0) = true := decide_eq_true hx
    clear hx
    go_enter Tryd.func30, Tryd.ntmps30
    go_upto_region 2 with (fail)
    go_still_tail 53, (by kernel_rfl)
    go_wp2_with (first
      | (go_at_call 39; generalize hW : World.alloc _ _ = W2; have e1 : W2.heap[w.heap.size]? = some (.cells (convW.map Value.string).toArray 9 (0, 0)) := by {rw [← hW]; exact blk_alloc (blk_drew (blk_new w _)) _}; have eB := Aside0.mk (show Below w.heap.size w W2 by {rw [← hW]; exact below_alloc (below_drew1 (below_alloc (Below.refl _ _) _)) _}); clear hW; refine (idx_walk word W2 _ e1).mono ?_; rw [← HI.out]; rintro e w' ⟨rfl, rfl⟩))
    go_ret
    exact ⟨rfl, eB.out⟩
  · rw [if_neg (by omega)]
    obtain ⟨o, ho⟩ : ∃ o, o = offs.getD n 0 := ⟨_, rfl⟩
    have HX := Aside0.mk hx
    rw [hx]
    clear hx
    have h0 : (0 : Int) ≤ (n : Int) := by omega
    have h15 : (n : Int) < 15 := by omega
    have hd : decide ((n : Int) < 0) = false := decide_eq_false (by omega)
    have hp := ptr_cell gp n hn
    rw [← ho] at hp
    have HP := Aside0.mk hp
    rw [Int.toNat_natCast, ← ho]
    clear hp ho
    go_enter Tryd.func30, Tryd.ntmps30
    go_upto_region 2 with (fail)
    go_still_tail 53, (by kernel_rfl)
    go_wp2_with (first
      | (go_at_call 39; generalize hW : World.alloc _ _ = W2; have e1 : W2.heap[w.heap.size]? = some (.cells (convW.map Value.string).toArray 9 (0, 0)) := by {rw [← hW]; exact blk_alloc (blk_drew (blk_new w _)) _}; have e2 : W2.cell? ⟨w.heap.size + 1, n, none⟩ = some (.pointer (some ⟨gp, o, none⟩)) := by {rw [← hW]; have hq := blk_new ((w.alloc (.cells (convW.map Value.string).toArray 9)).drew) (.cells #[.pointer (some ⟨gp, 0, none⟩), .pointer (some ⟨gp, 1, none⟩), .pointer (some ⟨gp, 2, none⟩), .pointer (some ⟨gp, 3, none⟩), .pointer (some ⟨gp, 4, none⟩), .pointer (some ⟨gp, 5, none⟩), .pointer (some ⟨gp, 6, none⟩), .pointer (some ⟨gp, 7, none⟩), .pointer (some ⟨gp, 19, none⟩), .pointer (some ⟨gp, 20, none⟩), .pointer (some ⟨gp, 21, none⟩), .pointer (some ⟨gp, 22, none⟩), .pointer (some ⟨gp, 23, none⟩), .pointer (some ⟨gp, 24, none⟩), .pointer (some ⟨gp, 25, none⟩)] 66); rw [show ((w.alloc (.cells (convW.map Value.string).toArray 9)).drew).heap.size = w.heap.size + 1 from by {show (Array.push w.heap _).size = w.heap.size + 1; exact Array.size_push ..}] at hq; exact (blk_cell hq n).trans HP.out}; have eB := Aside0.mk (show Below w.heap.size w W2 by {rw [← hW]; exact below_alloc (below_drew1 (below_alloc (Below.refl _ _) _)) _}); clear hW; refine (idx_walk word W2 _ e1).mono ?_; rw [HX.out]; rintro e w' ⟨rfl, rfl⟩))
    go_ret
    exact ⟨rfl, eB.out⟩
end Go.Proofs.YtbmhfnncagncmaaDoor.P
