/- The walk of the library's FormatInt at base 16, and what it leans on. No conditions beyond a number's range and the library's table. -/
import Derived.Test.YtlcablcpcbmgeaaGreatDoorTab
import Derived.Test.YtlcablcpcbmgeaaGreatDoorNumL
import Derived.Lib.Walk
import Derived.Lib.ItoaMem
import Derived.Laws.IdiomStrings
import Derived.Laws.Bits64b
import Derived.WalkKit
import Derived.BigCall
import Derived.BigGuard
namespace Go.Proofs.YtlcablcpcbmgeaaGreatDoor.Num
open Go.RowKit Go.Proofs.YtlcablcpcbmgeaaGreatDoorW.PrintWords Go.Proofs.YtlcablcpcbmgeaaGreatDoorW.PrintLast Go.Proofs.YtlcablcpcbmgeaaGreatDoor.P
set_option linter.unusedVariables false
set_option linter.unusedSimpArgs false
set_option maxRecDepth 100000 in
theorem tz64_16 (w : World) (hc : w.cell? ⟨8, 15, none⟩ = some (.int .u8 4)) : Calls Tryz.prog 124 #[.int .u64 16] w fun e w' => e = .returned (.int .i64 4) ∧ w' = w := by
  have key : IntKind.u64.wrap (bits BinOp.and IntKind.u64 16 (IntKind.u64.wrap (-16)) * 285870213051353865) / 288230376151711744 = 15 := by decide +kernel
  go_enter Tryz.func124, Tryz.ntmps124
  go_wp2_with (simp only [key])
  go_ret
  exact ⟨rfl, rfl⟩
theorem tz_16 (w : World) (hc : w.cell? ⟨8, 15, none⟩ = some (.int .u8 4)) : Calls Tryz.prog 110 #[.int .u64 16] w fun e w' => e = .returned (.int .i64 4) ∧ w' = w := by
  have h := tz64_16 w hc
  clear hc
  go_enter Tryz.func110, Tryz.ntmps110
  go_wp2_with (go_at_call 124; refine h.mono ?_; rintro e w' ⟨rfl, rfl⟩)
  go_ret
  exact ⟨rfl, rfl⟩
theorem pow2_16 (w : World) : Calls Tryz.prog 109 #[.int .i64 16] w fun e w' => e = .returned (.bool true) ∧ w' = w := by
  have key : bits BinOp.and IntKind.i64 16 15 = 0 := by decide +kernel
  go_enter Tryz.func109, Tryz.ntmps109
  go_wp2
  go_ret
  exact ⟨by first | rfl | simp [key], rfl⟩
def Row (w : World) (g i : Nat) (t : List UInt8) : Prop := (∀ j, j < 65 → ∃ x, w.cell? ⟨g, j, none⟩ = some (.int .u8 x)) ∧ (∀ j, j < 65 → w.frozen? ⟨g, j, none⟩ = false) ∧ ∀ j (h : j < t.length), w.cell? ⟨g, i + j, none⟩ = some (.int .u8 (t[j].toNat : Int))
theorem Row.store {w : World} {g i : Nat} {t : List UInt8} (h : Row w g (i + 1) t) (hi : i < 65) (b : UInt8) : Row (w.setCell ⟨g, i, none⟩ (.int .u8 (b.toNat : Int))) g i (b :: t) := by
  obtain ⟨h1, h2, h3⟩ := h
  have hs : ∃ x, (w.setCell ⟨g, i, none⟩ (.int .u8 (b.toNat : Int))).cell? ⟨g, i, none⟩ = some (.int .u8 x) ∧ x = (b.toNat : Int) := by
    obtain ⟨x, hx⟩ := h1 i hi
    exact ⟨_, World.cell?_setCell_same _ _ _ hx, rfl⟩
  have ho : ∀ j, j ≠ i → (w.setCell ⟨g, i, none⟩ (.int .u8 (b.toNat : Int))).cell? ⟨g, j, none⟩ = w.cell? ⟨g, j, none⟩ := fun j hj => World.cell?_setCell_other _ _ _ _ (by simp [hj])
  refine ⟨fun j hj => ?_, fun j hj => by rw [World.frozen?_setCell]; exact h2 j hj, fun j hj => ?_⟩
  · by_cases e : j = i
    · subst e; obtain ⟨x, hx, _⟩ := hs; exact ⟨x, hx⟩
    · rw [ho j e]; exact h1 j hj
  · cases j with
    | zero => obtain ⟨x, hx, rfl⟩ := hs; exact hx
    | succ j =>
      rw [ho _ (by omega), show i + (j + 1) = i + 1 + j by omega]
      exact h3 j (by simpa using hj)
theorem and15 (v : Nat) (hv : v < 18446744073709551616) : bits .and .u64 (v : Int) 15 = ((v % 16 : Nat) : Int) := by
  have := bits_and_u64_nat v 15 hv (by omega)
  rw [show ((15 : Nat) : Int) = 15 from rfl] at this
  rw [this, Nat.and_two_pow_sub_one_eq_mod v 4]
def dgs : ByteArray := ⟨#[48, 49, 50, 51, 52, 53, 54, 55, 56, 57, 97, 98, 99, 100, 101, 102, 103, 104, 105, 106, 107, 108, 109, 110, 111, 112, 113, 114, 115, 116, 117, 118, 119, 120, 121, 122]⟩
theorem dgs_all : ∀ d : Fin 16, dgs[(d : Nat)]'(Nat.lt_of_lt_of_le d.2 (show 16 ≤ 36 by decide)) = hl d := by decide +kernel
theorem dgs_at (d : Nat) (h : d < 16) (h2 : d < dgs.size) : dgs[d] = hl d := dgs_all ⟨d, h⟩
theorem idx_hex (d : Nat) (h : d < 16) (x : Int) (hx : x = (d : Int)) (w : World) : (Instr.index 9 (.string ⟨#[48, 49, 50, 51, 52, 53, 54, 55, 56, 57, 97, 98, 99, 100, 101, 102, 103, 104, 105, 106, 107, 108, 109, 110, 111, 112, 113, 114, 115, 116, 117, 118, 119, 120, 121, 122]⟩) (.int .u64 x)).run Tryz.prog w = .ok (.int .u8 ((hl d).toNat : Int)) w := by
  subst hx
  have hs : dgs.size = 36 := rfl
  show (Instr.index 9 (.string dgs) (.int .u64 (d : Int))).run Tryz.prog w = _
  rw [run_index_string w 9 dgs .u64 _ Tryz.underlying9, dif_pos ⟨by omega, by rw [hs]; omega⟩]
  have e : ((d : Int)).toNat = d := by omega
  simp only [e]
  rw [dgs_at d h (by rw [hs]; omega)]
set_option maxHeartbeats 8000000 in
set_option maxRecDepth 100000 in
theorem bits16 (u : Nat) (hu : u ≤ 9223372036854775807) (w : World) (ht : TabAt w) : Calls Tryz.prog 93 #[.slice none 0 0, .int .u64 u, .int .i64 16, .bool false, .bool false] w fun e w' => e = .returned (.tuple #[.slice none 0 0, .string ⟨(hexl u).toArray⟩]) ∧ Below w.heap.size w w' := by
  have HT := Aside0.mk ht
  clear ht
  have HB := Aside0.mk (Below.refl w.heap.size w)
  have HU := Lib.hid hu
  clear hu
  go_enter Tryz.func93, Tryz.ntmps93
  go_wp2_with (first
    | ((with_reducible refine gate_dst (N := 12) rfl ?_); refine box_e 12 (Array.replicate 65 (.int .u8 0)) 138 ?_; intro g hg w1 hbox hb; have GE := bg_ HB hg; have BK := Aside0.mk hbox; replace HB := bs_ HB hb; clear hb hbox hg)
    | (go_at_call 109; refine (pow2_16 _).mono ?_; rintro e w' ⟨rfl, rfl⟩)
    | (go_at_call 110; refine (tz_16 _ (tb_ HT HB).bru).mono ?_; rintro e w' ⟨rfl, rfl⟩))
  go_loopw [1, 13] (fun vu vi wr => ∃ (v i : Nat) (t : List UInt8), vu = .int .u64 v ∧ vi = .int .i64 i ∧ Aside0 (i + t.length = 65 ∧ hexl u = hexl v ++ t ∧ v ≤ u) ∧ Aside0 (Row wr g i t) ∧ Aside0 (Below w.heap.size w wr)) (fun vu _ _ => (intOf vu).toNat)
  case atStart =>
    refine ⟨u, 65, [], rfl, rfl, ⟨rfl, by simp, Nat.le_refl _⟩, ⟨fun j hj => ⟨0, ?_⟩, fun j hj => blk_frozen BK.out j, fun j hj => by simp at hj⟩, HB⟩
    rw [blk_cell BK.out j, Array.getElem?_replicate, if_pos hj]
  case round =>
    clear BK HB
    obtain ⟨v, i, t, rfl, rfl, HI, HR, HB⟩ := hrel
    have hL := hexl_len 15 u (by have := HU.out; omega)
    have hi : 50 ≤ i ∧ i ≤ 65 := by
      have h1 := HI.out.1
      have h2 := congrArg List.length HI.out.2.1
      have h3 := hexl_pos v
      rw [List.length_append] at h2
      omega
    have hv : v ≤ 9223372036854775807 := Nat.le_trans HI.out.2.2 HU.out
    clear hL
    obtain ⟨hi0, hi1⟩ := hi
    by_cases h16 : 16 ≤ v
    · obtain ⟨x, hx⟩ : ∃ x : Int, x = ((v % 16 : Nat) : Int) := ⟨_, rfl⟩
      have hand : bits .and .u64 (v : Int) 15 = x := (and15 v (by omega)).trans hx.symm
      have hX := idx_hex (v % 16) (by omega) x hx
      have hx0 : 0 ≤ x := by omega
      have hx1 : x ≤ 15 := by omega
      obtain ⟨i, rfl⟩ : ∃ i', i = i' + 1 := ⟨i - 1, by omega⟩
      have hc := HR.out.1 i (by omega)
      obtain ⟨y, hc⟩ := hc
      have hf := HR.out.2.1 i (by omega)
      have hS := Lib.hid (HR.out.store (by omega) (hl (v % 16)))
      clear hx
      go_wp2
      go_roundw
      case rel =>
        refine ⟨v / 16, i, hl (v % 16) :: t, by first | rfl | go_num, by first | rfl | go_num, ⟨?_, ?_, ?_⟩, Aside0.mk hS.out, Aside0.mk (below_set HB.out GE.out)⟩
        · have := HI.out.1; simp; omega
        · rw [HI.out.2.1, hexl_ge (by omega), List.append_assoc]; rfl
        · have := HI.out.2.2; have := Nat.div_le_self v 16; omega
      case measure => simp [intOf]; omega
    · have h16' : v < 16 := by omega
      have hX := idx_hex v h16' (v : Int) rfl
      obtain ⟨i, rfl⟩ : ∃ i', i = i' + 1 := ⟨i - 1, by omega⟩
      obtain ⟨y, hc⟩ := HR.out.1 i (by omega)
      have hf := HR.out.2.1 i (by omega)
      have hR2 := HR.out.store (by omega) (hl v)
      have hlen : i + (t.length + 1) = 65 := by have := HI.out.1; omega
      have hal : Tryz.prog.arrayLen 138 = 65 := by kernel_rfl
      have hsl : ∀ W, (Instr.sliceAt 138 (.pointer (some ⟨g, 0, none⟩)) (some (.int .i64 (i : Int))) none none).run Tryz.prog W = .ok (.slice (some ⟨g, i, none⟩) (t.length + 1) (t.length + 1)) W := fun W => by
        rw [run_sliceAt_array_l W 138 ⟨g, 0, none⟩ (by kernel_rfl) .i64 (i : Int) (by omega) (by rw [hal]; omega), hal]
        go_simp
        omega
      have hcv : (convert 39 9 (.slice (some ⟨g, i, none⟩) (t.length + 1) (t.length + 1))).run Tryz.prog (wr.setCell ⟨g, i, none⟩ (.int .u8 ((hl v).toNat : Int))) = .ok (.string ⟨(hexl u).toArray⟩) (wr.setCell ⟨g, i, none⟩ (.int .u8 ((hl v).toNat : Int))) := by
        have h := run_convert_bytes_back (P := Tryz.prog) (wr.setCell ⟨g, i, none⟩ (.int .u8 ((hl v).toNat : Int))) 39 9 5 ⟨g, i, none⟩ (t.length + 1) (hl v :: t) Tryz.underlying39 Tryz.underlying5 Tryz.underlying9 (fun j hj => by rw [Lib.add_plain]; exact hR2.2.2 j hj)
        have e : hexl u = hl v :: t := by rw [HI.out.2.1, hexl_lt h16']; rfl
        rw [e]
        exact h
      clear hal hR2 hlen
      go_wp2
      go_ret2
      exact ⟨rfl, below_set HB.out GE.out⟩
theorem formatInt16 (u : Nat) (hu : u ≤ 9223372036854775807) (w : World) (ht : TabAt w) : Calls Tryz.prog 75 #[.int .i64 u, .int .i64 16] w fun e w' => e = .returned (.string ⟨(hexl u).toArray⟩) ∧ Below w.heap.size w w' := by
  have h := bits16 u hu w ht
  have hw : IntKind.u64.wrap (u : Int) = (u : Int) := IntWalk.u64_in _ ⟨by omega, by omega⟩
  have hu0 : (0 : Int) ≤ (u : Int) := by omega
  have hu1 : (u : Int) ≤ 9223372036854775807 := by omega
  have hneg : ¬ (u : Int) < 0 := by omega
  clear ht hu
  go_enter Tryz.func75, Tryz.ntmps75
  go_wp2_with (go_at_call 93; refine h.mono ?_; rintro e w' ⟨rfl, hb⟩)
  go_ret
  exact ⟨rfl, hb⟩
theorem format16 (u : Nat) (hu : u ≤ 9223372036854775807) (w : World) (ht : TabAt w) : Calls Tryz.prog 56 #[.int .i64 u, .int .i64 16] w fun e w' => e = .returned (.string ⟨(hexl u).toArray⟩) ∧ Below w.heap.size w w' := by
  have h := formatInt16 u hu w ht
  clear ht
  go_enter Tryz.func56, Tryz.ntmps56
  go_wp2_with (go_at_call 75; refine h.mono ?_; rintro e w' ⟨rfl, hb⟩)
  go_ret
  exact ⟨rfl, hb⟩
end Go.Proofs.YtlcablcpcbmgeaaGreatDoor.Num
