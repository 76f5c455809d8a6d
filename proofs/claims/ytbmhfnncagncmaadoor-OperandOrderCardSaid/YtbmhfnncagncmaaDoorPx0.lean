/- Laid by a program of this session's own (wip/wprint.py, over the kit's print.py): functions of the given program as plain Lean functions, and that the program's calls come to their answers. -/
import Derived.Test.YtbmhfnncagncmaaDoorProg
import Derived.Below
import Derived.Deep.Draws
import Derived.Deep.AppendLies
import Derived.Maps.AppendAt
import Derived.OwnWalk
import Derived.Laws.BytesArg
import Derived.Laws.MakeOwn
import Derived.Laws.OwnMore
import Derived.Deep.OwnRows
import Derived.Tactics
import Derived.Lib.ConvBytes
import Derived.Laws.Slices
import Derived.WalkKit
import Derived.KernelRfl
import Derived.RowKit3
import Derived.Deep.LoopGhost
import Derived.Deep.QuietTactic
import Derived.BigQuiet
import Derived.WideLaws
import Derived.Deep.DeepCutAuto
import Derived.Deep.CutBlock
import Derived.Deep.RegionHeld3
import Derived.Laws.Rows
import Derived.Lib.AppendStr
import Derived.ArgAppend
import Derived.Laws.IdiomCopy
import Derived.OrdersHeld
import Derived.Laws.BitsLemmas
import Derived.RowKit
import Derived.Test.YtbmhfnncagncmaaDoorShort
import Derived.Test.YtbmhfnncagncmaaDoorTab
import Derived.Test.YtbmhfnncagncmaaDoorWAll
namespace Go.Proofs.YtbmhfnncagncmaaDoor.P
open Go.RowKit Go.Proofs.YtbmhfnncagncmaaDoorW.PrintWords Go.Proofs.YtbmhfnncagncmaaDoorW.PrintLast Go.Proofs.YtbmhfnncagncmaaDoorW.PrintMore
attribute [local go_sem] max2_int min2_int max_two min_two max_three min_three max_four min_four   -- for this text's walks alone
set_option linter.unusedVariables false
set_option linter.unusedSimpArgs false



def errW : Option Int → Value
  | none => .nilIface
  | some c => .iface 0 (.int .i64 c)
theorem errW_none : errW none = .nilIface := rfl
theorem errW_some (c : Int) : errW (some c) = .iface 0 (.int .i64 c) := rfl

theorem info3 : (Tryd.prog.info? 3).map (fun i => (i.zero, i.size, i.bytes)) = some (some (.int .i64 0), 1, 8) := by kernel_rfl
theorem info4 : (Tryd.prog.info? 4).map (fun i => (i.zero, i.size, i.bytes)) = some (some (.bool false), 1, 1) := by kernel_rfl
theorem info5 : (Tryd.prog.info? 5).map (fun i => (i.zero, i.size, i.bytes)) = some (some (.int .u8 0), 1, 1) := by kernel_rfl
theorem info9 : (Tryd.prog.info? 9).map (fun i => (i.zero, i.size, i.bytes)) = some (some (.string ⟨#[]⟩), 1, 16) := by kernel_rfl
theorem info60 : (Tryd.prog.info? 60).map (fun i => (i.zero, i.size, i.bytes)) = some (some (.agg #[(.string ⟨#[]⟩), (.string ⟨#[]⟩)]), 2, 32) := by kernel_rfl
-- the values' own types
/-! #### struct type 60 -/
structure S60 where
  f0 : ByteArray
  f1 : ByteArray
def z60 : S60 := ⟨(⟨#[]⟩ : ByteArray), (⟨#[]⟩ : ByteArray)⟩
def k60 : Kd S60 := Kd.iso (Kd.pair Kd.string Kd.string) (fun x : S60 => (x.f0, x.f1))
theorem k60_open {w : World} {x : S60} {cs : List Value} (h : k60.K w x cs) : cs = [.string x.f0, .string x.f1] := by
  obtain ⟨_, _, rfl, rfl, rfl⟩ := h
  exact rfl
theorem k60_openM {w : World} {base : Nat} {ok : Nat → Prop} {x : S60} {cs : List Value} (h : k60.M w base ok x cs) : cs = [.string x.f0, .string x.f1] := by
  obtain ⟨_, _, rfl, rfl, rfl⟩ := h
  exact rfl
theorem k60_mk (w : World) (x : S60)  : k60.K w x [.string x.f0, .string x.f1] := ⟨[.string x.f0], [.string x.f1], rfl, rfl, rfl⟩
theorem k60_mkM (w : World) (base : Nat) (ok : Nat → Prop) (x : S60)  : k60.M w base ok x [.string x.f0, .string x.f1] := ⟨[.string x.f0], [.string x.f1], rfl, rfl, rfl⟩
def rd_T60 (xs : List S60) (i : Int) : S60 := xs.getD i.toNat z60
theorem at_T60 {w : World} {A : Option Addr} {n : Nat} {xs : List S60} (h : Kd.C k60 w A n xs) (i : Int) (h0 : 0 ≤ i) (h1 : i < n) : ∃ ad , A = some ad ∧ w.cell? (ad.add (i.toNat * 2)) = some (.string (rd_T60 xs i).f0) ∧ w.cell? ⟨(ad.add (i.toNat * 2)).block, (ad.add (i.toNat * 2)).off + 1, none⟩ = some (.string (rd_T60 xs i).f1) := by
  obtain ⟨ad, c, e, _, hK, hc0⟩ := Kd.C_get h z60 i h0 h1
  have hc : ∀ j u, c[j]? = some u → w.cell? (ad.add (i.toNat * 2 + j)) = some u := hc0
  obtain rfl := k60_open hK
  exact ⟨ad, e, hc 0 _ rfl, by rw [← add_field _ _ 1 (by omega)]; exact hc 1 _ rfl⟩

def rd_L2 (xs : List (List S60)) (i : Int) : (List S60) := xs.getD i.toNat ([] : List S60)
theorem at_L2 {w : World} {A : Option Addr} {n : Nat} {xs : List (List S60)} (h : Kd.C (Kd.slice 60 k60) w A n xs) (i : Int) (h0 : 0 ≤ i) (h1 : i < n) : ∃ ad A0 c0, A = some ad ∧ w.cell? (ad.add i.toNat) = some (.slice A0 (rd_L2 xs i).length c0) ∧ (rd_L2 xs i).length ≤ c0 ∧ k60.C w A0 (rd_L2 xs i).length (rd_L2 xs i) := by
  obtain ⟨ad, c, e, _, hK, hc0⟩ := Kd.C_get h ([] : List S60) i h0 h1
  have hc : ∀ j u, c[j]? = some u → w.cell? (ad.add (i.toNat * 1 + j)) = some u := hc0
  obtain ⟨A0, c0, rfl, l0, g0⟩ := hK
  exact ⟨ad, A0, c0, e, by have hq := hc 0 _ rfl; rwa [Nat.mul_one, Nat.add_zero] at hq, l0, g0⟩

def rd_L3 (xs : List (List ByteArray)) (i : Int) : (List ByteArray) := xs.getD i.toNat ([] : List ByteArray)
theorem at_L3 {w : World} {A : Option Addr} {n : Nat} {xs : List (List ByteArray)} (h : Kd.C (Kd.slice 9 Kd.string) w A n xs) (i : Int) (h0 : 0 ≤ i) (h1 : i < n) : ∃ ad A0 c0, A = some ad ∧ w.cell? (ad.add i.toNat) = some (.slice A0 (rd_L3 xs i).length c0) ∧ (rd_L3 xs i).length ≤ c0 ∧ Kd.string.C w A0 (rd_L3 xs i).length (rd_L3 xs i) := by
  obtain ⟨ad, c, e, _, hK, hc0⟩ := Kd.C_get h ([] : List ByteArray) i h0 h1
  have hc : ∀ j u, c[j]? = some u → w.cell? (ad.add (i.toNat * 1 + j)) = some u := hc0
  obtain ⟨A0, c0, rfl, l0, g0⟩ := hK
  exact ⟨ad, A0, c0, e, by have hq := hc 0 _ rfl; rwa [Nat.mul_one, Nat.add_zero] at hq, l0, g0⟩

/-! #### struct type 23 -/
structure S23 where
  f0 : Bool
  f1 : Bool
  f2 : Bool
  f3 : Bool
  f4 : Bool
  f5 : Bool
  f6 : Bool
  f7 : Bool
  f8 : Int
def z23 : S23 := ⟨false, false, false, false, false, false, false, false, (0 : Int)⟩
def k23 : Kd S23 := Kd.iso (Kd.pair Kd.bool (Kd.pair Kd.bool (Kd.pair Kd.bool (Kd.pair Kd.bool (Kd.pair Kd.bool (Kd.pair Kd.bool (Kd.pair Kd.bool (Kd.pair Kd.bool (Kd.int .i64))))))))) (fun x : S23 => (x.f0, x.f1, x.f2, x.f3, x.f4, x.f5, x.f6, x.f7, x.f8))
theorem k23_open {w : World} {x : S23} {cs : List Value} (h : k23.K w x cs) : cs = [.bool x.f0, .bool x.f1, .bool x.f2, .bool x.f3, .bool x.f4, .bool x.f5, .bool x.f6, .bool x.f7, .int .i64 x.f8] := by
  obtain ⟨_, _, rfl, rfl, ⟨_, _, rfl, rfl, ⟨_, _, rfl, rfl, ⟨_, _, rfl, rfl, ⟨_, _, rfl, rfl, ⟨_, _, rfl, rfl, ⟨_, _, rfl, rfl, ⟨_, _, rfl, rfl, rfl⟩⟩⟩⟩⟩⟩⟩⟩ := h
  exact rfl
theorem k23_openM {w : World} {base : Nat} {ok : Nat → Prop} {x : S23} {cs : List Value} (h : k23.M w base ok x cs) : cs = [.bool x.f0, .bool x.f1, .bool x.f2, .bool x.f3, .bool x.f4, .bool x.f5, .bool x.f6, .bool x.f7, .int .i64 x.f8] := by
  obtain ⟨_, _, rfl, rfl, ⟨_, _, rfl, rfl, ⟨_, _, rfl, rfl, ⟨_, _, rfl, rfl, ⟨_, _, rfl, rfl, ⟨_, _, rfl, rfl, ⟨_, _, rfl, rfl, ⟨_, _, rfl, rfl, rfl⟩⟩⟩⟩⟩⟩⟩⟩ := h
  exact rfl
theorem k23_mk (w : World) (x : S23)  : k23.K w x [.bool x.f0, .bool x.f1, .bool x.f2, .bool x.f3, .bool x.f4, .bool x.f5, .bool x.f6, .bool x.f7, .int .i64 x.f8] := ⟨[.bool x.f0], [.bool x.f1, .bool x.f2, .bool x.f3, .bool x.f4, .bool x.f5, .bool x.f6, .bool x.f7, .int .i64 x.f8], rfl, rfl, ⟨[.bool x.f1], [.bool x.f2, .bool x.f3, .bool x.f4, .bool x.f5, .bool x.f6, .bool x.f7, .int .i64 x.f8], rfl, rfl, ⟨[.bool x.f2], [.bool x.f3, .bool x.f4, .bool x.f5, .bool x.f6, .bool x.f7, .int .i64 x.f8], rfl, rfl, ⟨[.bool x.f3], [.bool x.f4, .bool x.f5, .bool x.f6, .bool x.f7, .int .i64 x.f8], rfl, rfl, ⟨[.bool x.f4], [.bool x.f5, .bool x.f6, .bool x.f7, .int .i64 x.f8], rfl, rfl, ⟨[.bool x.f5], [.bool x.f6, .bool x.f7, .int .i64 x.f8], rfl, rfl, ⟨[.bool x.f6], [.bool x.f7, .int .i64 x.f8], rfl, rfl, ⟨[.bool x.f7], [.int .i64 x.f8], rfl, rfl, rfl⟩⟩⟩⟩⟩⟩⟩⟩
theorem k23_mkM (w : World) (base : Nat) (ok : Nat → Prop) (x : S23)  : k23.M w base ok x [.bool x.f0, .bool x.f1, .bool x.f2, .bool x.f3, .bool x.f4, .bool x.f5, .bool x.f6, .bool x.f7, .int .i64 x.f8] := ⟨[.bool x.f0], [.bool x.f1, .bool x.f2, .bool x.f3, .bool x.f4, .bool x.f5, .bool x.f6, .bool x.f7, .int .i64 x.f8], rfl, rfl, ⟨[.bool x.f1], [.bool x.f2, .bool x.f3, .bool x.f4, .bool x.f5, .bool x.f6, .bool x.f7, .int .i64 x.f8], rfl, rfl, ⟨[.bool x.f2], [.bool x.f3, .bool x.f4, .bool x.f5, .bool x.f6, .bool x.f7, .int .i64 x.f8], rfl, rfl, ⟨[.bool x.f3], [.bool x.f4, .bool x.f5, .bool x.f6, .bool x.f7, .int .i64 x.f8], rfl, rfl, ⟨[.bool x.f4], [.bool x.f5, .bool x.f6, .bool x.f7, .int .i64 x.f8], rfl, rfl, ⟨[.bool x.f5], [.bool x.f6, .bool x.f7, .int .i64 x.f8], rfl, rfl, ⟨[.bool x.f6], [.bool x.f7, .int .i64 x.f8], rfl, rfl, ⟨[.bool x.f7], [.int .i64 x.f8], rfl, rfl, rfl⟩⟩⟩⟩⟩⟩⟩⟩
def rd_T23 (xs : List S23) (i : Int) : S23 := xs.getD i.toNat z23
theorem at_T23 {w : World} {A : Option Addr} {n : Nat} {xs : List S23} (h : Kd.C k23 w A n xs) (i : Int) (h0 : 0 ≤ i) (h1 : i < n) : ∃ ad , A = some ad ∧ w.cell? (ad.add (i.toNat * 9)) = some (.bool (rd_T23 xs i).f0) ∧ w.cell? ⟨(ad.add (i.toNat * 9)).block, (ad.add (i.toNat * 9)).off + 1, none⟩ = some (.bool (rd_T23 xs i).f1) ∧ w.cell? ⟨(ad.add (i.toNat * 9)).block, (ad.add (i.toNat * 9)).off + 2, none⟩ = some (.bool (rd_T23 xs i).f2) ∧ w.cell? ⟨(ad.add (i.toNat * 9)).block, (ad.add (i.toNat * 9)).off + 3, none⟩ = some (.bool (rd_T23 xs i).f3) ∧ w.cell? ⟨(ad.add (i.toNat * 9)).block, (ad.add (i.toNat * 9)).off + 4, none⟩ = some (.bool (rd_T23 xs i).f4) ∧ w.cell? ⟨(ad.add (i.toNat * 9)).block, (ad.add (i.toNat * 9)).off + 5, none⟩ = some (.bool (rd_T23 xs i).f5) ∧ w.cell? ⟨(ad.add (i.toNat * 9)).block, (ad.add (i.toNat * 9)).off + 6, none⟩ = some (.bool (rd_T23 xs i).f6) ∧ w.cell? ⟨(ad.add (i.toNat * 9)).block, (ad.add (i.toNat * 9)).off + 7, none⟩ = some (.bool (rd_T23 xs i).f7) ∧ w.cell? ⟨(ad.add (i.toNat * 9)).block, (ad.add (i.toNat * 9)).off + 8, none⟩ = some (.int .i64 (rd_T23 xs i).f8) := by
  obtain ⟨ad, c, e, _, hK, hc0⟩ := Kd.C_get h z23 i h0 h1
  have hc : ∀ j u, c[j]? = some u → w.cell? (ad.add (i.toNat * 9 + j)) = some u := hc0
  obtain rfl := k23_open hK
  exact ⟨ad, e, hc 0 _ rfl, by rw [← add_field _ _ 1 (by omega)]; exact hc 1 _ rfl, by rw [← add_field _ _ 2 (by omega)]; exact hc 2 _ rfl, by rw [← add_field _ _ 3 (by omega)]; exact hc 3 _ rfl, by rw [← add_field _ _ 4 (by omega)]; exact hc 4 _ rfl, by rw [← add_field _ _ 5 (by omega)]; exact hc 5 _ rfl, by rw [← add_field _ _ 6 (by omega)]; exact hc 6 _ rfl, by rw [← add_field _ _ 7 (by omega)]; exact hc 7 _ rfl, by rw [← add_field _ _ 8 (by omega)]; exact hc 8 _ rfl⟩

/-! #### struct type 25 -/
structure S25 where
  f0 : S23
  f1 : ByteArray
  f2 : ByteArray
  f3 : Int
  f4 : Int
  f5 : Int
  f6 : Int
  f7 : Int
  f8 : Bool
  f9 : Bool
  f10 : Bool
  f11 : Bool
  f12 : Bool
  f13 : Bool
  f14 : Bool
  f15 : Bool
  f16 : Bool
  f17 : Bool
def z25 : S25 := ⟨z23, (⟨#[]⟩ : ByteArray), (⟨#[]⟩ : ByteArray), (0 : Int), (0 : Int), (0 : Int), (0 : Int), (0 : Int), false, false, false, false, false, false, false, false, false, false⟩
def k25 : Kd S25 := Kd.iso (Kd.pair k23 (Kd.pair Kd.string (Kd.pair Kd.string (Kd.pair (Kd.int .i64) (Kd.pair (Kd.int .i64) (Kd.pair (Kd.int .i64) (Kd.pair (Kd.int .i64) (Kd.pair (Kd.int .i64) (Kd.pair Kd.bool (Kd.pair Kd.bool (Kd.pair Kd.bool (Kd.pair Kd.bool (Kd.pair Kd.bool (Kd.pair Kd.bool (Kd.pair Kd.bool (Kd.pair Kd.bool (Kd.pair Kd.bool Kd.bool))))))))))))))))) (fun x : S25 => (x.f0, x.f1, x.f2, x.f3, x.f4, x.f5, x.f6, x.f7, x.f8, x.f9, x.f10, x.f11, x.f12, x.f13, x.f14, x.f15, x.f16, x.f17))
theorem k25_open {w : World} {x : S25} {cs : List Value} (h : k25.K w x cs) : cs = [.bool x.f0.f0, .bool x.f0.f1, .bool x.f0.f2, .bool x.f0.f3, .bool x.f0.f4, .bool x.f0.f5, .bool x.f0.f6, .bool x.f0.f7, .int .i64 x.f0.f8, .string x.f1, .string x.f2, .int .i64 x.f3, .int .i64 x.f4, .int .i64 x.f5, .int .i64 x.f6, .int .i64 x.f7, .bool x.f8, .bool x.f9, .bool x.f10, .bool x.f11, .bool x.f12, .bool x.f13, .bool x.f14, .bool x.f15, .bool x.f16, .bool x.f17] := by
  obtain ⟨_, _, rfl, s0, ⟨_, _, rfl, rfl, ⟨_, _, rfl, rfl, ⟨_, _, rfl, rfl, ⟨_, _, rfl, rfl, ⟨_, _, rfl, rfl, ⟨_, _, rfl, rfl, ⟨_, _, rfl, rfl, ⟨_, _, rfl, rfl, ⟨_, _, rfl, rfl, ⟨_, _, rfl, rfl, ⟨_, _, rfl, rfl, ⟨_, _, rfl, rfl, ⟨_, _, rfl, rfl, ⟨_, _, rfl, rfl, ⟨_, _, rfl, rfl, ⟨_, _, rfl, rfl, rfl⟩⟩⟩⟩⟩⟩⟩⟩⟩⟩⟩⟩⟩⟩⟩⟩⟩ := h
  obtain rfl := k23_open s0
  exact rfl
theorem k25_openM {w : World} {base : Nat} {ok : Nat → Prop} {x : S25} {cs : List Value} (h : k25.M w base ok x cs) : cs = [.bool x.f0.f0, .bool x.f0.f1, .bool x.f0.f2, .bool x.f0.f3, .bool x.f0.f4, .bool x.f0.f5, .bool x.f0.f6, .bool x.f0.f7, .int .i64 x.f0.f8, .string x.f1, .string x.f2, .int .i64 x.f3, .int .i64 x.f4, .int .i64 x.f5, .int .i64 x.f6, .int .i64 x.f7, .bool x.f8, .bool x.f9, .bool x.f10, .bool x.f11, .bool x.f12, .bool x.f13, .bool x.f14, .bool x.f15, .bool x.f16, .bool x.f17] := by
  obtain ⟨_, _, rfl, s0, ⟨_, _, rfl, rfl, ⟨_, _, rfl, rfl, ⟨_, _, rfl, rfl, ⟨_, _, rfl, rfl, ⟨_, _, rfl, rfl, ⟨_, _, rfl, rfl, ⟨_, _, rfl, rfl, ⟨_, _, rfl, rfl, ⟨_, _, rfl, rfl, ⟨_, _, rfl, rfl, ⟨_, _, rfl, rfl, ⟨_, _, rfl, rfl, ⟨_, _, rfl, rfl, ⟨_, _, rfl, rfl, ⟨_, _, rfl, rfl, ⟨_, _, rfl, rfl, rfl⟩⟩⟩⟩⟩⟩⟩⟩⟩⟩⟩⟩⟩⟩⟩⟩⟩ := h
  obtain rfl := k23_openM s0
  exact rfl
theorem k25_mk (w : World) (x : S25)  : k25.K w x [.bool x.f0.f0, .bool x.f0.f1, .bool x.f0.f2, .bool x.f0.f3, .bool x.f0.f4, .bool x.f0.f5, .bool x.f0.f6, .bool x.f0.f7, .int .i64 x.f0.f8, .string x.f1, .string x.f2, .int .i64 x.f3, .int .i64 x.f4, .int .i64 x.f5, .int .i64 x.f6, .int .i64 x.f7, .bool x.f8, .bool x.f9, .bool x.f10, .bool x.f11, .bool x.f12, .bool x.f13, .bool x.f14, .bool x.f15, .bool x.f16, .bool x.f17] := ⟨[.bool x.f0.f0, .bool x.f0.f1, .bool x.f0.f2, .bool x.f0.f3, .bool x.f0.f4, .bool x.f0.f5, .bool x.f0.f6, .bool x.f0.f7, .int .i64 x.f0.f8], [.string x.f1, .string x.f2, .int .i64 x.f3, .int .i64 x.f4, .int .i64 x.f5, .int .i64 x.f6, .int .i64 x.f7, .bool x.f8, .bool x.f9, .bool x.f10, .bool x.f11, .bool x.f12, .bool x.f13, .bool x.f14, .bool x.f15, .bool x.f16, .bool x.f17], rfl, (k23_mk w x.f0 ), ⟨[.string x.f1], [.string x.f2, .int .i64 x.f3, .int .i64 x.f4, .int .i64 x.f5, .int .i64 x.f6, .int .i64 x.f7, .bool x.f8, .bool x.f9, .bool x.f10, .bool x.f11, .bool x.f12, .bool x.f13, .bool x.f14, .bool x.f15, .bool x.f16, .bool x.f17], rfl, rfl, ⟨[.string x.f2], [.int .i64 x.f3, .int .i64 x.f4, .int .i64 x.f5, .int .i64 x.f6, .int .i64 x.f7, .bool x.f8, .bool x.f9, .bool x.f10, .bool x.f11, .bool x.f12, .bool x.f13, .bool x.f14, .bool x.f15, .bool x.f16, .bool x.f17], rfl, rfl, ⟨[.int .i64 x.f3], [.int .i64 x.f4, .int .i64 x.f5, .int .i64 x.f6, .int .i64 x.f7, .bool x.f8, .bool x.f9, .bool x.f10, .bool x.f11, .bool x.f12, .bool x.f13, .bool x.f14, .bool x.f15, .bool x.f16, .bool x.f17], rfl, rfl, ⟨[.int .i64 x.f4], [.int .i64 x.f5, .int .i64 x.f6, .int .i64 x.f7, .bool x.f8, .bool x.f9, .bool x.f10, .bool x.f11, .bool x.f12, .bool x.f13, .bool x.f14, .bool x.f15, .bool x.f16, .bool x.f17], rfl, rfl, ⟨[.int .i64 x.f5], [.int .i64 x.f6, .int .i64 x.f7, .bool x.f8, .bool x.f9, .bool x.f10, .bool x.f11, .bool x.f12, .bool x.f13, .bool x.f14, .bool x.f15, .bool x.f16, .bool x.f17], rfl, rfl, ⟨[.int .i64 x.f6], [.int .i64 x.f7, .bool x.f8, .bool x.f9, .bool x.f10, .bool x.f11, .bool x.f12, .bool x.f13, .bool x.f14, .bool x.f15, .bool x.f16, .bool x.f17], rfl, rfl, ⟨[.int .i64 x.f7], [.bool x.f8, .bool x.f9, .bool x.f10, .bool x.f11, .bool x.f12, .bool x.f13, .bool x.f14, .bool x.f15, .bool x.f16, .bool x.f17], rfl, rfl, ⟨[.bool x.f8], [.bool x.f9, .bool x.f10, .bool x.f11, .bool x.f12, .bool x.f13, .bool x.f14, .bool x.f15, .bool x.f16, .bool x.f17], rfl, rfl, ⟨[.bool x.f9], [.bool x.f10, .bool x.f11, .bool x.f12, .bool x.f13, .bool x.f14, .bool x.f15, .bool x.f16, .bool x.f17], rfl, rfl, ⟨[.bool x.f10], [.bool x.f11, .bool x.f12, .bool x.f13, .bool x.f14, .bool x.f15, .bool x.f16, .bool x.f17], rfl, rfl, ⟨[.bool x.f11], [.bool x.f12, .bool x.f13, .bool x.f14, .bool x.f15, .bool x.f16, .bool x.f17], rfl, rfl, ⟨[.bool x.f12], [.bool x.f13, .bool x.f14, .bool x.f15, .bool x.f16, .bool x.f17], rfl, rfl, ⟨[.bool x.f13], [.bool x.f14, .bool x.f15, .bool x.f16, .bool x.f17], rfl, rfl, ⟨[.bool x.f14], [.bool x.f15, .bool x.f16, .bool x.f17], rfl, rfl, ⟨[.bool x.f15], [.bool x.f16, .bool x.f17], rfl, rfl, ⟨[.bool x.f16], [.bool x.f17], rfl, rfl, rfl⟩⟩⟩⟩⟩⟩⟩⟩⟩⟩⟩⟩⟩⟩⟩⟩⟩
theorem k25_mkM (w : World) (base : Nat) (ok : Nat → Prop) (x : S25)  : k25.M w base ok x [.bool x.f0.f0, .bool x.f0.f1, .bool x.f0.f2, .bool x.f0.f3, .bool x.f0.f4, .bool x.f0.f5, .bool x.f0.f6, .bool x.f0.f7, .int .i64 x.f0.f8, .string x.f1, .string x.f2, .int .i64 x.f3, .int .i64 x.f4, .int .i64 x.f5, .int .i64 x.f6, .int .i64 x.f7, .bool x.f8, .bool x.f9, .bool x.f10, .bool x.f11, .bool x.f12, .bool x.f13, .bool x.f14, .bool x.f15, .bool x.f16, .bool x.f17] := ⟨[.bool x.f0.f0, .bool x.f0.f1, .bool x.f0.f2, .bool x.f0.f3, .bool x.f0.f4, .bool x.f0.f5, .bool x.f0.f6, .bool x.f0.f7, .int .i64 x.f0.f8], [.string x.f1, .string x.f2, .int .i64 x.f3, .int .i64 x.f4, .int .i64 x.f5, .int .i64 x.f6, .int .i64 x.f7, .bool x.f8, .bool x.f9, .bool x.f10, .bool x.f11, .bool x.f12, .bool x.f13, .bool x.f14, .bool x.f15, .bool x.f16, .bool x.f17], rfl, (k23_mkM w base ok x.f0 ), ⟨[.string x.f1], [.string x.f2, .int .i64 x.f3, .int .i64 x.f4, .int .i64 x.f5, .int .i64 x.f6, .int .i64 x.f7, .bool x.f8, .bool x.f9, .bool x.f10, .bool x.f11, .bool x.f12, .bool x.f13, .bool x.f14, .bool x.f15, .bool x.f16, .bool x.f17], rfl, rfl, ⟨[.string x.f2], [.int .i64 x.f3, .int .i64 x.f4, .int .i64 x.f5, .int .i64 x.f6, .int .i64 x.f7, .bool x.f8, .bool x.f9, .bool x.f10, .bool x.f11, .bool x.f12, .bool x.f13, .bool x.f14, .bool x.f15, .bool x.f16, .bool x.f17], rfl, rfl, ⟨[.int .i64 x.f3], [.int .i64 x.f4, .int .i64 x.f5, .int .i64 x.f6, .int .i64 x.f7, .bool x.f8, .bool x.f9, .bool x.f10, .bool x.f11, .bool x.f12, .bool x.f13, .bool x.f14, .bool x.f15, .bool x.f16, .bool x.f17], rfl, rfl, ⟨[.int .i64 x.f4], [.int .i64 x.f5, .int .i64 x.f6, .int .i64 x.f7, .bool x.f8, .bool x.f9, .bool x.f10, .bool x.f11, .bool x.f12, .bool x.f13, .bool x.f14, .bool x.f15, .bool x.f16, .bool x.f17], rfl, rfl, ⟨[.int .i64 x.f5], [.int .i64 x.f6, .int .i64 x.f7, .bool x.f8, .bool x.f9, .bool x.f10, .bool x.f11, .bool x.f12, .bool x.f13, .bool x.f14, .bool x.f15, .bool x.f16, .bool x.f17], rfl, rfl, ⟨[.int .i64 x.f6], [.int .i64 x.f7, .bool x.f8, .bool x.f9, .bool x.f10, .bool x.f11, .bool x.f12, .bool x.f13, .bool x.f14, .bool x.f15, .bool x.f16, .bool x.f17], rfl, rfl, ⟨[.int .i64 x.f7], [.bool x.f8, .bool x.f9, .bool x.f10, .bool x.f11, .bool x.f12, .bool x.f13, .bool x.f14, .bool x.f15, .bool x.f16, .bool x.f17], rfl, rfl, ⟨[.bool x.f8], [.bool x.f9, .bool x.f10, .bool x.f11, .bool x.f12, .bool x.f13, .bool x.f14, .bool x.f15, .bool x.f16, .bool x.f17], rfl, rfl, ⟨[.bool x.f9], [.bool x.f10, .bool x.f11, .bool x.f12, .bool x.f13, .bool x.f14, .bool x.f15, .bool x.f16, .bool x.f17], rfl, rfl, ⟨[.bool x.f10], [.bool x.f11, .bool x.f12, .bool x.f13, .bool x.f14, .bool x.f15, .bool x.f16, .bool x.f17], rfl, rfl, ⟨[.bool x.f11], [.bool x.f12, .bool x.f13, .bool x.f14, .bool x.f15, .bool x.f16, .bool x.f17], rfl, rfl, ⟨[.bool x.f12], [.bool x.f13, .bool x.f14, .bool x.f15, .bool x.f16, .bool x.f17], rfl, rfl, ⟨[.bool x.f13], [.bool x.f14, .bool x.f15, .bool x.f16, .bool x.f17], rfl, rfl, ⟨[.bool x.f14], [.bool x.f15, .bool x.f16, .bool x.f17], rfl, rfl, ⟨[.bool x.f15], [.bool x.f16, .bool x.f17], rfl, rfl, ⟨[.bool x.f16], [.bool x.f17], rfl, rfl, rfl⟩⟩⟩⟩⟩⟩⟩⟩⟩⟩⟩⟩⟩⟩⟩⟩⟩
def rd_T25 (xs : List S25) (i : Int) : S25 := xs.getD i.toNat z25
theorem at_T25 {w : World} {A : Option Addr} {n : Nat} {xs : List S25} (h : Kd.C k25 w A n xs) (i : Int) (h0 : 0 ≤ i) (h1 : i < n) : ∃ ad , A = some ad ∧ w.cell? (ad.add (i.toNat * 26)) = some (.bool (rd_T25 xs i).f0.f0) ∧ w.cell? ⟨(ad.add (i.toNat * 26)).block, (ad.add (i.toNat * 26)).off + 1, none⟩ = some (.bool (rd_T25 xs i).f0.f1) ∧ w.cell? ⟨(ad.add (i.toNat * 26)).block, (ad.add (i.toNat * 26)).off + 2, none⟩ = some (.bool (rd_T25 xs i).f0.f2) ∧ w.cell? ⟨(ad.add (i.toNat * 26)).block, (ad.add (i.toNat * 26)).off + 3, none⟩ = some (.bool (rd_T25 xs i).f0.f3) ∧ w.cell? ⟨(ad.add (i.toNat * 26)).block, (ad.add (i.toNat * 26)).off + 4, none⟩ = some (.bool (rd_T25 xs i).f0.f4) ∧ w.cell? ⟨(ad.add (i.toNat * 26)).block, (ad.add (i.toNat * 26)).off + 5, none⟩ = some (.bool (rd_T25 xs i).f0.f5) ∧ w.cell? ⟨(ad.add (i.toNat * 26)).block, (ad.add (i.toNat * 26)).off + 6, none⟩ = some (.bool (rd_T25 xs i).f0.f6) ∧ w.cell? ⟨(ad.add (i.toNat * 26)).block, (ad.add (i.toNat * 26)).off + 7, none⟩ = some (.bool (rd_T25 xs i).f0.f7) ∧ w.cell? ⟨(ad.add (i.toNat * 26)).block, (ad.add (i.toNat * 26)).off + 8, none⟩ = some (.int .i64 (rd_T25 xs i).f0.f8) ∧ w.cell? ⟨(ad.add (i.toNat * 26)).block, (ad.add (i.toNat * 26)).off + 9, none⟩ = some (.string (rd_T25 xs i).f1) ∧ w.cell? ⟨(ad.add (i.toNat * 26)).block, (ad.add (i.toNat * 26)).off + 10, none⟩ = some (.string (rd_T25 xs i).f2) ∧ w.cell? ⟨(ad.add (i.toNat * 26)).block, (ad.add (i.toNat * 26)).off + 11, none⟩ = some (.int .i64 (rd_T25 xs i).f3) ∧ w.cell? ⟨(ad.add (i.toNat * 26)).block, (ad.add (i.toNat * 26)).off + 12, none⟩ = some (.int .i64 (rd_T25 xs i).f4) ∧ w.cell? ⟨(ad.add (i.toNat * 26)).block, (ad.add (i.toNat * 26)).off + 13, none⟩ = some (.int .i64 (rd_T25 xs i).f5) ∧ w.cell? ⟨(ad.add (i.toNat * 26)).block, (ad.add (i.toNat * 26)).off + 14, none⟩ = some (.int .i64 (rd_T25 xs i).f6) ∧ w.cell? ⟨(ad.add (i.toNat * 26)).block, (ad.add (i.toNat * 26)).off + 15, none⟩ = some (.int .i64 (rd_T25 xs i).f7) ∧ w.cell? ⟨(ad.add (i.toNat * 26)).block, (ad.add (i.toNat * 26)).off + 16, none⟩ = some (.bool (rd_T25 xs i).f8) ∧ w.cell? ⟨(ad.add (i.toNat * 26)).block, (ad.add (i.toNat * 26)).off + 17, none⟩ = some (.bool (rd_T25 xs i).f9) ∧ w.cell? ⟨(ad.add (i.toNat * 26)).block, (ad.add (i.toNat * 26)).off + 18, none⟩ = some (.bool (rd_T25 xs i).f10) ∧ w.cell? ⟨(ad.add (i.toNat * 26)).block, (ad.add (i.toNat * 26)).off + 19, none⟩ = some (.bool (rd_T25 xs i).f11) ∧ w.cell? ⟨(ad.add (i.toNat * 26)).block, (ad.add (i.toNat * 26)).off + 20, none⟩ = some (.bool (rd_T25 xs i).f12) ∧ w.cell? ⟨(ad.add (i.toNat * 26)).block, (ad.add (i.toNat * 26)).off + 21, none⟩ = some (.bool (rd_T25 xs i).f13) ∧ w.cell? ⟨(ad.add (i.toNat * 26)).block, (ad.add (i.toNat * 26)).off + 22, none⟩ = some (.bool (rd_T25 xs i).f14) ∧ w.cell? ⟨(ad.add (i.toNat * 26)).block, (ad.add (i.toNat * 26)).off + 23, none⟩ = some (.bool (rd_T25 xs i).f15) ∧ w.cell? ⟨(ad.add (i.toNat * 26)).block, (ad.add (i.toNat * 26)).off + 24, none⟩ = some (.bool (rd_T25 xs i).f16) ∧ w.cell? ⟨(ad.add (i.toNat * 26)).block, (ad.add (i.toNat * 26)).off + 25, none⟩ = some (.bool (rd_T25 xs i).f17) := by
  obtain ⟨ad, c, e, _, hK, hc0⟩ := Kd.C_get h z25 i h0 h1
  have hc : ∀ j u, c[j]? = some u → w.cell? (ad.add (i.toNat * 26 + j)) = some u := hc0
  obtain rfl := k25_open hK
  exact ⟨ad, e, hc 0 _ rfl, by rw [← add_field _ _ 1 (by omega)]; exact hc 1 _ rfl, by rw [← add_field _ _ 2 (by omega)]; exact hc 2 _ rfl, by rw [← add_field _ _ 3 (by omega)]; exact hc 3 _ rfl, by rw [← add_field _ _ 4 (by omega)]; exact hc 4 _ rfl, by rw [← add_field _ _ 5 (by omega)]; exact hc 5 _ rfl, by rw [← add_field _ _ 6 (by omega)]; exact hc 6 _ rfl, by rw [← add_field _ _ 7 (by omega)]; exact hc 7 _ rfl, by rw [← add_field _ _ 8 (by omega)]; exact hc 8 _ rfl, by rw [← add_field _ _ 9 (by omega)]; exact hc 9 _ rfl, by rw [← add_field _ _ 10 (by omega)]; exact hc 10 _ rfl, by rw [← add_field _ _ 11 (by omega)]; exact hc 11 _ rfl, by rw [← add_field _ _ 12 (by omega)]; exact hc 12 _ rfl, by rw [← add_field _ _ 13 (by omega)]; exact hc 13 _ rfl, by rw [← add_field _ _ 14 (by omega)]; exact hc 14 _ rfl, by rw [← add_field _ _ 15 (by omega)]; exact hc 15 _ rfl, by rw [← add_field _ _ 16 (by omega)]; exact hc 16 _ rfl, by rw [← add_field _ _ 17 (by omega)]; exact hc 17 _ rfl, by rw [← add_field _ _ 18 (by omega)]; exact hc 18 _ rfl, by rw [← add_field _ _ 19 (by omega)]; exact hc 19 _ rfl, by rw [← add_field _ _ 20 (by omega)]; exact hc 20 _ rfl, by rw [← add_field _ _ 21 (by omega)]; exact hc 21 _ rfl, by rw [← add_field _ _ 22 (by omega)]; exact hc 22 _ rfl, by rw [← add_field _ _ 23 (by omega)]; exact hc 23 _ rfl, by rw [← add_field _ _ 24 (by omega)]; exact hc 24 _ rfl, by rw [← add_field _ _ 25 (by omega)]; exact hc 25 _ rfl⟩

end Go.Proofs.YtbmhfnncagncmaaDoor.P
