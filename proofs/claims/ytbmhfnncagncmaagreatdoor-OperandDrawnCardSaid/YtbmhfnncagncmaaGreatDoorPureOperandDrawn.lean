import Derived.Test.YtbmhfnncagncmaaGreatDoorPureOperandParses
import Derived.Test.YtbmhfnncagncmaaGreatDoorOpzD
import Derived.Test.YtbmhfnncagncmaaGreatDoorOprU
import Derived.Test.YtbmhfnncagncmaaGreatDoorOpen
namespace Go.Proofs.YtbmhfnncagncmaaGreatDoor.Pure
open Go.RowKit Go.Proofs.YtbmhfnncagncmaaGreatDoorW.PrintWords Go.Proofs.YtbmhfnncagncmaaGreatDoorW.PrintLast Go.Proofs.YtbmhfnncagncmaaGreatDoor.P Go.Proofs.YtbmhfnncagncmaaGreatDoor.Open
set_option linter.unusedVariables false
set_option linter.unusedSimpArgs false
def Good (n : Nat) (r : List ByteArray) : Prop := r.length ≤ n ∧ ∀ s ∈ r, s.size ≤ 1000
theorem Good.push {n : Nat} {r : List ByteArray} (h : Good n r) {s : ByteArray} (hs : s.size ≤ 1000) : Good (n + 1) (r ++ [s]) := by
  refine ⟨by rw [List.length_append, List.length_singleton]; exact Nat.succ_le_succ h.1, ?_⟩
  intro x hx
  rcases List.mem_append.1 hx with hx | hx
  · exact h.2 x hx
  · rw [List.mem_singleton.1 hx]; exact hs
theorem Good.more {n m : Nat} {r : List ByteArray} (h : Good n r) (hm : n ≤ m) : Good m r := ⟨Nat.le_trans h.1 hm, h.2⟩
def wordsA : List ByteArray := [⟨#[115, 119, 97, 98]⟩, ⟨#[98, 108, 111, 99, 107]⟩, ⟨#[117, 110, 98, 108, 111, 99, 107]⟩, ⟨#[108, 99, 97, 115, 101]⟩, ⟨#[117, 99, 97, 115, 101]⟩, ⟨#[97, 115, 99, 105, 105]⟩, ⟨#[101, 98, 99, 100, 105, 99]⟩, ⟨#[105, 98, 109]⟩, ⟨#[115, 121, 110, 99]⟩, ⟨#[110, 111, 101, 114, 114, 111, 114]⟩, ⟨#[110, 111, 116, 114, 117, 110, 99]⟩, ⟨#[115, 112, 97, 114, 115, 101]⟩, ⟨#[102, 115, 121, 110, 99]⟩, ⟨#[101, 120, 99, 108]⟩, ⟨#[110, 111, 99, 114, 101, 97, 116]⟩]
def keysA : List ByteArray := [⟨#[105, 98, 115]⟩, ⟨#[111, 98, 115]⟩, ⟨#[98, 115]⟩, ⟨#[99, 98, 115]⟩, ⟨#[115, 107, 105, 112]⟩, ⟨#[115, 101, 101, 107]⟩]
theorem sizeA : ∀ i : Fin 15, (rdOf ByteArray.empty wordsA i).size ≤ 100 := by decide +kernel
theorem sizeK : ∀ i : Fin 6, (rdOf ByteArray.empty keysA i).size ≤ 100 := by decide +kernel
theorem num_of (a : Int) (h0 : -9223372036854775808 ≤ a) (h1 : a ≤ 9223372036854775807) : ∃ t, Ev (fun k => salvorkeep_Num.f k a) t ∧ t.size ≤ 70 := by
  refine ⟨PureN.bl (Lib.itoa a), ?_, by rw [PureN.bl_size]; exact PureN.itoa_len a h0 h1⟩
  unfold salvorkeep_Num.f
  exact Ev.bind (PureN.refdec_ev a h0 h1) (Ev.now _)
theorem wrap_in (n : Int) : -9223372036854775808 ≤ wrap64 n ∧ wrap64 n ≤ 9223372036854775807 := by unfold wrap64; omega
theorem ap_size (a b : ByteArray) : (a ++ b).size = a.size + b.size := ByteArray.size_append
theorem aL1 (c0 c1 c2 c3 c4 c5 c6 c7 c8 c9 c10 : Int) : ∀ (d i : Nat) (out : List ByteArray) (n : Nat), 15 - i = d → i ≤ 15 → Good n out → n + d ≤ 1000 → ∃ r, Ev (fun k => salvorkeep_Dd_Args.l1 k out wordsA (i : Int) c0 c1 c2 c3 c4 c5 c6 c7 c8 c9 c10) r ∧ Good (n + d) r
  | 0, i, out, n, hd, hi, hg, hn => ⟨out, Ev.step (f := fun _ => some out) (fun k => by rw [salvorkeep_Dd_Args.l1, if_neg (by show ¬ (i : Int) < (15 : Nat); omega)]) (Ev.now _), hg⟩
  | d + 1, i, out, n, hd, hi, hg, hn => by
    have hl : (i : Int) < (wordsA.length : Int) := by show (i : Int) < (15 : Nat); omega
    have hu : (0 : Int) ≤ IntKind.u64.wrap (i : Int) := by rw [IntWalk.u64_in _ ⟨by omega, by omega⟩]; omega
    have e3 : wrap64 ((i : Int) + 1) = ((i + 1 : Nat) : Int) := by unfold wrap64; omega
    have hs := sizeA ⟨i, by omega⟩
    have hs2 : (rdOf ByteArray.empty wordsA (i : Int)).size ≤ 100 := hs
    have hlen := hg.1
    by_cases hb : Go.bits .and .u32 (shr .u32 c10 (IntKind.u64.wrap (i : Int))) 1 = 1
    · obtain ⟨r, h1, h2⟩ := aL1 c0 c1 c2 c3 c4 c5 c6 c7 c8 c9 c10 d (i + 1) _ (n + 1) (by omega) (by omega) (hg.push (s := (⟨#[99, 111, 110, 118, 61]⟩ : ByteArray) ++ (rdOf ByteArray.empty wordsA (i : Int))) (by rw [ap_size]; show 5 + _ ≤ 1000; omega)) (by omega)
      exact ⟨r, Ev.step (fun k => by rw [salvorkeep_Dd_Args.l1, if_pos hl, if_pos hu, if_pos hb, if_pos (by omega), if_pos (by omega), if_pos (by omega), e3]) h1, h2.more (by omega)⟩
    · obtain ⟨r, h1, h2⟩ := aL1 c0 c1 c2 c3 c4 c5 c6 c7 c8 c9 c10 d (i + 1) out n (by omega) (by omega) hg (by omega)
      exact ⟨r, Ev.step (fun k => by rw [salvorkeep_Dd_Args.l1, if_pos hl, if_pos hu, if_neg hb, e3]) h1, h2.more (by omega)⟩
theorem aJ3 (c0 c1 c2 c3 c4 c5 c6 c7 c8 c9 c10 : Int) (out : List ByteArray) (n : Nat) (hg : Good n out) (hn : n ≤ 900) : ∃ r, Ev (fun k => salvorkeep_Dd_Args.j3 k out c0 c1 c2 c3 c4 c5 c6 c7 c8 c9 c10) r ∧ Good (n + 15) r := by
  obtain ⟨r, h1, h2⟩ := aL1 c0 c1 c2 c3 c4 c5 c6 c7 c8 c9 c10 15 0 out n rfl (by omega) hg (by omega)
  exact ⟨r, Ev.step (fun k => by rw [salvorkeep_Dd_Args.j3]; rfl) h1, h2⟩
theorem aJ2 (c0 c1 c2 c3 c4 c5 c6 c7 c8 c9 c10 : Int) (out : List ByteArray) (n : Nat) (hg : Good n out) (hn : n ≤ 800) : ∃ r, Ev (fun k => salvorkeep_Dd_Args.j2 k out c0 c1 c2 c3 c4 c5 c6 c7 c8 c9 c10) r ∧ Good (n + 16) r := by
  have hlen := hg.1
  by_cases hb : Go.bits .and .u8 c9 2 = 2
  · obtain ⟨r, h1, h2⟩ := aJ3 c0 c1 c2 c3 c4 c5 c6 c7 c8 c9 c10 _ (n + 1) (hg.push (s := (⟨#[105, 102, 108, 97, 103, 61, 102, 117, 108, 108, 98, 108, 111, 99, 107]⟩ : ByteArray)) (by decide)) (by omega)
    exact ⟨r, Ev.step (fun k => by rw [salvorkeep_Dd_Args.j2, if_pos hb, if_pos (by omega)]) h1, h2.more (by omega)⟩
  · obtain ⟨r, h1, h2⟩ := aJ3 c0 c1 c2 c3 c4 c5 c6 c7 c8 c9 c10 out n hg (by omega)
    exact ⟨r, Ev.step (fun k => by rw [salvorkeep_Dd_Args.j2, if_neg hb]) h1, h2.more (by omega)⟩
theorem aL0 (c0 c1 c2 c3 c4 c5 c6 c7 c8 c9 c10 : Int) (v : List Int) (hv : v.length = 6) : ∀ (d i : Nat) (out : List ByteArray) (n : Nat), 6 - i = d → i ≤ 6 → Good n out → n + d ≤ 100 → ∃ r, Ev (fun k => salvorkeep_Dd_Args.l0 k out keysA v (i : Int) c0 c1 c2 c3 c4 c5 c6 c7 c8 c9 c10) r ∧ Good (n + d + 17) r
  | 0, i, out, n, hd, hi, hg, hn => by
    have hlen := hg.1
    by_cases hb : Go.bits .and .u8 c9 1 = 1
    · obtain ⟨t, ht, htz⟩ := num_of (wrap64 (Int.tmod c8 20)) (wrap_in _).1 (wrap_in _).2
      obtain ⟨r, h1, h2⟩ := aJ2 c0 c1 c2 c3 c4 c5 c6 c7 c8 c9 c10 _ (n + 1) (hg.push (s := (⟨#[99, 111, 117, 110, 116, 61]⟩ : ByteArray) ++ t) (by rw [ap_size]; show 6 + _ ≤ 1000; omega)) (by omega)
      refine ⟨r, Ev.step (f := fun k => (salvorkeep_Num.f k (wrap64 (Int.tmod c8 20))).bind fun t => if 6 + t.size ≤ 9223372036854775807 then (if out.length < 8796093022208 then salvorkeep_Dd_Args.j2 k (out ++ [(⟨#[99, 111, 117, 110, 116, 61]⟩ : ByteArray) ++ t]) c0 c1 c2 c3 c4 c5 c6 c7 c8 c9 c10 else none) else none) (fun k => by rw [salvorkeep_Dd_Args.l0, if_neg (by show ¬ (i : Int) < (6 : Nat); omega), if_pos hb]) (Ev.bind ht ?_), h2.more (by omega)⟩
      simp only [if_pos (show 6 + t.size ≤ 9223372036854775807 by omega), if_pos (show out.length < 8796093022208 by omega)]
      exact h1
    · obtain ⟨r, h1, h2⟩ := aJ2 c0 c1 c2 c3 c4 c5 c6 c7 c8 c9 c10 out n hg (by omega)
      exact ⟨r, Ev.step (fun k => by rw [salvorkeep_Dd_Args.l0, if_neg (by show ¬ (i : Int) < (6 : Nat); omega), if_neg hb]) h1, h2.more (by omega)⟩
  | d + 1, i, out, n, hd, hi, hg, hn => by
    have hl : (i : Int) < (keysA.length : Int) := by show (i : Int) < (6 : Nat); omega
    have hl2 : (i : Int) < (v.length : Int) := by rw [hv]; omega
    have e3 : wrap64 ((i : Int) + 1) = ((i + 1 : Nat) : Int) := by unfold wrap64; omega
    have hs := sizeK ⟨i, by omega⟩
    have hs2 : (rdOf ByteArray.empty keysA (i : Int)).size ≤ 100 := hs
    have hlen := hg.1
    by_cases hb : rd v (i : Int) > 0
    · obtain ⟨t, ht, htz⟩ := num_of (wrap64 (rd v (i : Int))) (wrap_in _).1 (wrap_in _).2
      have hk1 : ((rdOf ByteArray.empty keysA (i : Int)) ++ (⟨#[61]⟩ : ByteArray)).size = (rdOf ByteArray.empty keysA (i : Int)).size + 1 := ap_size _ _
      obtain ⟨r, h1, h2⟩ := aL0 c0 c1 c2 c3 c4 c5 c6 c7 c8 c9 c10 v hv d (i + 1) _ (n + 1) (by omega) (by omega) (hg.push (s := ((rdOf ByteArray.empty keysA (i : Int)) ++ (⟨#[61]⟩ : ByteArray)) ++ t) (by rw [ap_size, hk1]; omega)) (by omega)
      refine ⟨r, Ev.step (f := fun k => (salvorkeep_Num.f k (wrap64 (rd v (i : Int)))).bind fun t => if ((rdOf ByteArray.empty keysA (i : Int)) ++ (⟨#[61]⟩ : ByteArray)).size + t.size ≤ 9223372036854775807 then (if out.length < 8796093022208 then salvorkeep_Dd_Args.l0 k (out ++ [((rdOf ByteArray.empty keysA (i : Int)) ++ (⟨#[61]⟩ : ByteArray)) ++ t]) keysA v ((i + 1 : Nat) : Int) c0 c1 c2 c3 c4 c5 c6 c7 c8 c9 c10 else none) else none) (fun k => by rw [salvorkeep_Dd_Args.l0, if_pos hl, if_pos (by omega), if_pos hl2, if_pos hb, if_pos (by omega), e3]) (Ev.bind ht ?_), h2.more (by omega)⟩
      simp only [hk1, if_pos (show (rdOf ByteArray.empty keysA (i : Int)).size + 1 + t.size ≤ 9223372036854775807 by omega), if_pos (show out.length < 8796093022208 by omega)]
      exact h1
    · obtain ⟨r, h1, h2⟩ := aL0 c0 c1 c2 c3 c4 c5 c6 c7 c8 c9 c10 v hv d (i + 1) out n (by omega) (by omega) hg (by omega)
      exact ⟨r, Ev.step (fun k => by rw [salvorkeep_Dd_Args.l0, if_pos hl, if_pos (by omega), if_pos hl2, if_neg hb, e3]) h1, h2.more (by omega)⟩
theorem aJ0 (c0 c1 c2 c3 c4 c5 c6 c7 c8 c9 c10 : Int) (out : List ByteArray) (n : Nat) (hg : Good n out) (hn : n ≤ 90) : ∃ r, Ev (fun k => salvorkeep_Dd_Args.j0 k out c0 c1 c2 c3 c4 c5 c6 c7 c8 c9 c10) r ∧ Good (n + 23) r := by
  obtain ⟨r, h1, h2⟩ := aL0 c0 c1 c2 c3 c4 c5 c6 c7 c8 c9 c10 [Int.tmod c2 40, Int.tmod c3 40, Int.tmod c4 40, Int.tmod c5 20, Int.tmod c6 12, Int.tmod c7 12] rfl 6 0 out n rfl (by omega) hg (by omega)
  exact ⟨r, Ev.step (fun k => by rw [salvorkeep_Dd_Args.j0]; rfl) h1, h2.more (by omega)⟩
theorem right_of (a : Int) (h : 0 ≤ a) : ∃ t, salvorkeep_Right.f a = some t ∧ t.size ≤ 3 := by
  have h0 : 0 ≤ Int.tmod a 6 := Int.tmod_nonneg 6 h
  have h1 : Int.tmod a 6 < 6 := Int.tmod_lt_of_pos a (by omega)
  obtain ⟨m, hm⟩ : ∃ m, m = Int.tmod a 6 := ⟨_, rfl⟩
  rw [← hm] at h0 h1
  have hr : salvorkeep_Right.f a = some (rdOf ByteArray.empty [⟨#[97]⟩, ⟨#[98]⟩, ⟨#[99]⟩, ⟨#[100, 115, 116]⟩, ⟨#[109, 97, 112]⟩, ⟨#[120, 45, 49]⟩] m) := by
    unfold salvorkeep_Right.f
    rw [← hm]
    simp only [Option.bind_some]
    rw [if_pos h0, if_pos (by show m < (6 : Nat); omega)]
  refine ⟨_, hr, ?_⟩
  have hc : m = 0 ∨ m = 1 ∨ m = 2 ∨ m = 3 ∨ m = 4 ∨ m = 5 := by omega
  rcases hc with rfl | rfl | rfl | rfl | rfl | rfl <;> decide +kernel
theorem args_of (c0 c1 c2 c3 c4 c5 c6 c7 c8 c9 c10 : Int) (disk : Bool) (h0 : 0 ≤ c0) (h1 : 0 ≤ c1) : ∃ r, Ev (fun k => salvorkeep_Dd_Args.f k c0 c1 c2 c3 c4 c5 c6 c7 c8 c9 c10 disk) r ∧ Good 30 r := by
  obtain ⟨t, ht, htz⟩ := right_of c1 h1
  obtain ⟨u, hu, huz⟩ := right_of c0 h0
  have g1 : Good 1 [(⟨#[111, 102, 61]⟩ : ByteArray) ++ t] := ⟨Nat.le_refl _, fun s hs => by rw [List.mem_singleton.1 hs, ap_size]; show 3 + _ ≤ 1000; omega⟩
  unfold salvorkeep_Dd_Args.f
  simp only [ht, hu, Option.bind_some, if_pos (show 3 + t.size ≤ 9223372036854775807 by omega), if_pos (show 3 + u.size ≤ 9223372036854775807 by omega)]
  cases disk with
  | true =>
    obtain ⟨r, h2, h3⟩ := aJ0 c0 c1 c2 c3 c4 c5 c6 c7 c8 c9 c10 _ 2 (g1.push (s := (⟨#[105, 102, 61, 100, 105, 115, 107]⟩ : ByteArray)) (by decide)) (by omega)
    refine ⟨r, ?_, h3.more (by omega)⟩
    simp only [if_true, List.length_singleton, if_pos (show 1 < 8796093022208 by omega)]
    exact h2
  | false =>
    obtain ⟨r, h2, h3⟩ := aJ0 c0 c1 c2 c3 c4 c5 c6 c7 c8 c9 c10 _ 2 (g1.push (s := (⟨#[105, 102, 61]⟩ : ByteArray) ++ u) (by rw [ap_size]; show 3 + _ ≤ 1000; omega)) (by omega)
    refine ⟨r, ?_, h3.more (by omega)⟩
    simp only [Bool.false_eq_true, if_false, List.length_singleton, if_pos (show 1 < 8796093022208 by omega)]
    exact h2
theorem drawn_true (x : S35) (hw : WF35 x) (disk : Bool) (A2 : Option Addr) (c2 : Nat) (l : List ByteArray) (hwf : ∀ x_ ∈ l, x_.size ≤ maxLen) (w : World) (hr : Kd.C Kd.string w A2 l.length l) (hc : l.length ≤ c2) (htab : TabAt w) :
    Calls Tryz.prog 4 #[.agg #[.int .u8 x.f0, .int .u8 x.f1, .int .u8 x.f2, .int .u8 x.f3, .int .u8 x.f4, .int .u8 x.f5, .int .u8 x.f6, .int .u8 x.f7, .int .u8 x.f8, .int .u8 x.f9, .int .u32 x.f10], .bool disk, .slice A2 l.length c2] w fun e w' => e = .returned (.bool true) ∧ Below w.heap.size w w' := by
  obtain ⟨w0, w1, _⟩ := hw
  have p0 : 0 ≤ x.f0 := by simp only [Lit.wf, Bool.and_eq_true, decide_eq_true_eq] at w0; exact w0.1
  have p1 : 0 ≤ x.f1 := by simp only [Lit.wf, Bool.and_eq_true, decide_eq_true_eq] at w1; exact w1.1
  obtain ⟨b, ⟨K1, e1⟩, h2⟩ := few24_ev l
  cases b with
  | false => exact drawn_walk K1 x.f0 x.f1 x.f2 x.f3 x.f4 x.f5 x.f6 x.f7 x.f8 x.f9 x.f10 disk A2 c2 l [] zeroPL 0 false w hr hc (e1 K1 (Nat.le_refl _)) (fun h => by cases h) (fun h => by cases h) (fun h => by cases h) (fun h => by cases h) htab
  | true =>
    obtain ⟨h3, h4⟩ := h2 rfl
    obtain ⟨r, ⟨K4, e4⟩, hg⟩ := args_of x.f0 x.f1 x.f2 x.f3 x.f4 x.f5 x.f6 x.f7 x.f8 x.f9 x.f10 disk p0 p1
    have hlen := hg.1
    obtain ⟨⟨p, rc⟩, ⟨K2, e2⟩, K3, e3⟩ := parse_same (r ++ l) (fun s hs => by
      rcases List.mem_append.1 hs with hs | hs
      · exact hg.2 s hs
      · exact Nat.le_trans (h4 s hs) (by omega))
    exact drawn_walk (K1 + K2 + K3 + K4) x.f0 x.f1 x.f2 x.f3 x.f4 x.f5 x.f6 x.f7 x.f8 x.f9 x.f10 disk A2 c2 l r p rc true w hr hc (e1 _ (by omega)) (fun _ => e4 _ (by omega)) (fun _ => by omega) (fun _ => e2 _ (by omega)) (fun _ => e3 _ (by omega)) htab
end Go.Proofs.YtbmhfnncagncmaaGreatDoor.Pure
