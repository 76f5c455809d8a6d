/- The builder that maptext.Print writes into; Print's closure. No conditions beyond sizes. -/
import Derived.Test.YtlcablcpcbmgeaaGreatDoorPx0
import Derived.Test.YtlcablcpcbmgeaaGreatDoorShelf
namespace Go.Proofs.YtlcablcpcbmgeaaGreatDoor.P
open Go.RowKit Go.Proofs.YtlcablcpcbmgeaaGreatDoorW.PrintWords Go.Proofs.YtlcablcpcbmgeaaGreatDoorW.PrintLast
set_option linter.unusedVariables false
set_option linter.unusedSimpArgs false
theorem bldAt_below {B b : Nat} {p : Value} {bs : List Value} {W W' : World} (h : Lib.BuilderAt 49 5 B b p bs W) (hb : Below W.heap.size W W') : Lib.BuilderAt 49 5 B b p bs W' := by
  have hlt := h.lt
  obtain ⟨hB, v, hv, hown, hne⟩ := h
  exact ⟨hB, v, (hb.block b hlt).trans hv, hown.kept (row := none) ⟨hb.os, hb.tape, hb.output, hb.size, fun k hk _ => hb.block k hk⟩ (Classical.em _), hne⟩
theorem bld_below {B b : Nat} {bs : List Value} {W W' : World} (h : Lib.IsBuilder 49 5 B b bs W) (hb : Below W.heap.size W W') : Lib.IsBuilder 49 5 B b bs W' :=
  h.elim (fun x => .inl (bldAt_below x hb)) (fun x => .inr (bldAt_below x hb))
theorem bWrite (B b : Nat) (bs : List Value) (s : ByteArray) (w : World) (h : Lib.IsBuilder 49 5 B b bs w) (hlen : bs.length + s.size ≤ 140737488355328) (hBw : B ≤ w.heap.size) :
    Calls Tryz.prog 24 #[.pointer (some ⟨b, 0, none⟩), .string s] w fun e w' => e = .returned (.tuple #[.int .i64 s.size, .nilIface]) ∧ Lib.IsBuilder 49 5 B b (bs ++ Lib.strCells s) w' ∧ Below B w w' :=
  (Any.Builder_WriteString { Tryz.lays156 with } Tryz.Builder_Extra_156 B b bs s w h hlen hBw).mono fun e w' h => ⟨h.1, .inr h.2.1, h.2.2⟩
theorem below_then2 {B : Nat} {w W W2 : World} (h : Below B w W) (k : Below B W W2) : Below B w W2 := ⟨k.os.trans h.os, k.tape.trans h.tape, k.output.trans h.output, Nat.le_trans h.size k.size, fun i hi => (k.block i hi).trans (h.block i hi)⟩
/-- What a line is. -/
def lineB (xs : List ByteArray) : ByteArray := (⟨(Lib.join (xs.map (·.data.toList)) [32]).toArray⟩ : ByteArray) ++ ⟨#[10]⟩
set_option maxHeartbeats 4000000 in
set_option maxRecDepth 100000 in
theorem line_walk (B b : Nat) (bs : List Value) (bk o c : Nat) (xs : List ByteArray) (w : World) (h : Lib.IsBuilder 49 5 B b bs w) (hBw : B ≤ w.heap.size) (hcells : ∀ (j : Nat) x, xs[j]? = some x → w.cell? ⟨bk, o + j, none⟩ = some (.string x)) (hbk : bk < w.heap.size) (hcap : xs.length ≤ c) (hN : xs.length ≤ 100) (hlen : (Lib.join (xs.map (·.data.toList)) [32]).length ≤ 1000000) (hbs : bs.length ≤ 1000000000000) :
    Calls Tryz.prog 23 #[.slice (some ⟨bk, o, none⟩) xs.length c, .pointer (some ⟨b, 0, none⟩)] w fun e w' => (∃ v, e = .returned v) ∧ Lib.IsBuilder 49 5 B b (bs ++ Lib.strCells (lineB xs)) w' ∧ Below B w w' := by
  have hj := Tryz.strings_Join bk o c xs ⟨#[32]⟩ w hcells hbk (by omega) hcap (by show (Lib.join _ [32]).length ≤ _; omega)
  obtain ⟨J, hJ⟩ : ∃ J : ByteArray, J = ⟨(Lib.join (xs.map (·.data.toList)) [32]).toArray⟩ := ⟨_, rfl⟩
  have hJz : J.size ≤ 1000000 := by rw [hJ]; show (Lib.join _ [32]).toArray.size ≤ _; rw [List.size_toArray]; exact hlen
  have e0 : lineB xs = J ++ ⟨#[10]⟩ := by rw [hJ]; rfl
  have HJ := Aside0.mk (show Calls Tryz.prog 25 #[.slice (some ⟨bk, o, none⟩) xs.length c, .string ⟨#[32]⟩] w fun e w' => e = .returned (.string J) ∧ Below w.heap.size w w' from by rw [hJ]; exact hj)
  have HI := Aside0.mk h
  have HB := Aside0.mk hBw
  have e1 : (J ++ (⟨#[10]⟩ : ByteArray)).size = J.size + 1 := ByteArray.size_append
  have HL := Aside0.mk (show bs.length + (J ++ (⟨#[10]⟩ : ByteArray)).size ≤ 140737488355328 from by rw [e1]; omega)
  have hcat : (9223372036854775807 < J.size + 1) = False := eq_false (by omega)
  rw [e0]
  clear hcells hbk hcap hN hlen hbs h hBw hj hJ hJz e0 e1
  go_enter Tryz.func23, Tryz.ntmps23
  go_wp2_with (first
    | (go_at_call 25; refine HJ.out.mono ?_; rintro e w1 ⟨rfl, hb⟩; have HI1 := Aside0.mk (bld_below HI.out hb); have HBb := Aside0.mk (show Below B w w1 from ⟨hb.os, hb.tape, hb.output, hb.size, fun k hk => hb.block k (Nat.lt_of_lt_of_le hk HB.out)⟩); clear hb)
    | (go_at_call 24; refine (bWrite B b bs (J ++ (⟨#[10]⟩ : ByteArray)) _ HI1.out HL.out (Nat.le_trans HB.out HBb.out.size)).mono ?_; rintro e w2 ⟨rfl, hi, hb⟩; have HI2 := Aside0.mk hi; have HB2 := Aside0.mk hb; clear hi hb))
  go_end0
  exact ⟨⟨_, rfl⟩, HI2.out, below_then2 HBb.out HB2.out⟩
end Go.Proofs.YtlcablcpcbmgeaaGreatDoor.P
