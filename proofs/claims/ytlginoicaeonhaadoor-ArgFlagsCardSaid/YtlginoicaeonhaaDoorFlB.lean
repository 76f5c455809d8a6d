/- The walk of arg.flags: the flags of a spec, or that it is none. No conditions. -/
import Derived.Test.YtlginoicaeonhaaDoorPx0
import Derived.Test.YtlginoicaeonhaaDoorPx2
import Derived.Test.YtlginoicaeonhaaDoorFlA
namespace Go.Proofs.YtlginoicaeonhaaDoor.P
open Go.RowKit Go.Proofs.YtlginoicaeonhaaDoorW.PrintWords Go.Proofs.YtlginoicaeonhaaDoorW.PrintLast
set_option linter.unusedVariables false
set_option linter.unusedSimpArgs false
theorem d0b {w w' : World} (h : Drawn0 w w') : Below w.heap.size w w' := by
  obtain ⟨n, rfl⟩ := h
  exact pw_below_drewN (Below.refl _ _) n
/-- The bytes of a text from an index on. -/
def bytesOf (a : ByteArray) (i : Nat) : List Int := (List.range' i (a.size - i)).map (fun (j : Nat) => bt a j)
theorem bytesOf_step (a : ByteArray) (i : Nat) (h : i < a.size) : bytesOf a i = bt a i :: bytesOf a (i + 1) := by
  unfold bytesOf
  rw [show a.size - i = (a.size - (i + 1)) + 1 from by omega, List.range'_succ, List.map_cons]
theorem bytesOf_end (a : ByteArray) (i : Nat) (h : a.size ≤ i) : bytesOf a i = [] := by
  unfold bytesOf
  rw [show a.size - i = 0 from by omega]; rfl
def letterB (c : Int) : Bool := (decide (97 ≤ c) && decide (c ≤ 122)) || (decide (65 ≤ c) && decide (c ≤ 90))
theorem letter_eq (c : Int) : arg_letter.f c = some (letterB c) := by
  unfold arg_letter.f arg_small.f letterB
  by_cases h1 : c ≥ 97 <;> by_cases h2 : c ≤ 122 <;> by_cases h3 : c ≥ 65 <;> by_cases h4 : c ≤ 90 <;> simp [h1, h2, h3, h4] <;> omega
/-- The flags of a spec. -/
def specL : List Int → List S72 → Option (List S72)
  | [], l => some l
  | c :: cs, l =>
    if letterB c = true ∧ ¬ 0 ≤ idxF l c then specL cs (l ++ [⟨c, false⟩])
    else if c = 58 ∧ 0 < l.length ∧ (rd_T72 l ((l.length : Int) - 1)).f1 = false then specL cs (l.set (l.length - 1) ⟨(rd_T72 l ((l.length : Int) - 1)).f0, true⟩)
    else none
theorem R72_mark {W : World} {base n g cap : Nat} {ok : Nat → Prop} {l : List S72} (h : Kd.R k72 72 W base ok (.slice (some ⟨g, 0, none⟩) n cap) l) (k : Nat) (hk : k < l.length) :
    Kd.R k72 72 (W.setCell ⟨g, k * 2 + 1, none⟩ (.bool true)) base ok (.slice (some ⟨g, 0, none⟩) n cap) (l.set k ⟨(rd_T72 l k).f0, true⟩) := by
  obtain rfl := (Kd.R_reads' h).1
  obtain ⟨h0, inner, ⟨hlen, hrow⟩, hr1, hr2⟩ := h
  rcases hrow with ⟨e0, _⟩ | ⟨g', cap', cur, e0, hg, hh, hn, hm, hsz, htake⟩
  · cases e0
  · injection e0 with e1 e2 e3
    injection e1 with e1
    injection e1 with e1
    subst e1 e3
    have hl2 : inner.length = l.length * 2 := hlen
    refine ⟨h0, inner.set (k * 2 + 1) (.bool true), ⟨by rw [List.length_set, List.length_set]; exact hlen, .inr ⟨g, cap, cur.setIfInBounds (k * 2 + 1) (.bool true), by rw [List.length_set], hg, blk_set hh _ _, by rw [List.length_set]; exact hn, hm, by rw [Array.size_setIfInBounds]; exact hsz, ?_⟩⟩, ?_, ?_⟩
    · rw [Array.toList_setIfInBounds, List.take_set, List.length_set, htake]
    · rw [List.length_set, List.length_set]; exact hr1
    · intro j p hj
      show k72.M _ _ _ p (((inner.set (k * 2 + 1) (.bool true)).drop (j * 2)).take 2)
      rw [List.drop_set]
      by_cases hjk : j = k
      · subst hjk
        rw [List.getElem?_set_self hk] at hj
        obtain rfl := Option.some.inj hj
        have hp := hr2 j l[j] (List.getElem?_eq_getElem hk)
        have ho := k72_openM hp
        have ho' : (inner.drop (j * 2)).take 2 = [.int .u8 l[j].f0, .bool l[j].f1] := ho
        rw [if_neg (by omega), show j * 2 + 1 - j * 2 = 1 from by omega, List.take_set, ho', rd72_get l j hk]
        exact k72_mkM _ _ _ ⟨l[j].f0, true⟩
      · rw [List.getElem?_set_ne (fun e => hjk e.symm)] at hj
        have hp := hr2 j p hj
        have ho := k72_openM hp
        have ho' : (inner.drop (j * 2)).take 2 = [.int .u8 p.f0, .bool p.f1] := ho
        by_cases hlt : k * 2 + 1 < j * 2
        · rw [if_pos hlt, ho']; exact k72_mkM _ _ _ p
        · rw [if_neg hlt, List.take_set, List.set_eq_of_length_le (by rw [ho']; simp; omega), ho']
          exact k72_mkM _ _ _ p
theorem info72 : (Tryd.prog.info? 72).map (fun i => (i.zero, i.size, i.bytes)) = some (some (.agg #[.int .u8 0, .bool false]), 2, 2) := by kernel_rfl
theorem R72_slice {W : World} {base n cap : Nat} {A : Option Addr} {ok : Nat → Prop} {l : List S72} (h : Kd.R k72 72 W base ok (.slice A n cap) l) (hn : 0 < l.length) : ∃ g, A = some ⟨g, 0, none⟩ ∧ base ≤ g ∧ ∃ cur, W.heap[g]? = some (.cells cur 72 (0, 0)) := by
  obtain ⟨h0, inner, ⟨hlen, hrow⟩, hr⟩ := h
  rcases hrow with ⟨e0, e1⟩ | ⟨g', cap', cur, e0, hg, hh, _⟩
  · omega
  · injection e0 with e1 e2 e3
    exact ⟨g', e1, hg, cur, hh⟩
theorem R72_cell {W : World} {base n cap g : Nat} {ok : Nat → Prop} {l : List S72} (h : Kd.R k72 72 W base ok (.slice (some ⟨g, 0, none⟩) n cap) l) (k : Nat) (hk : k < l.length) : W.cell? ⟨g, k * 2 + 1, none⟩ = some (.bool (rd_T72 l k).f1) ∧ W.frozen? ⟨g, k * 2 + 1, none⟩ = false := by
  obtain ⟨g2, e2, _, cur, hh⟩ := R72_slice h (by omega)
  obtain ⟨ad, e, c0, c1⟩ := at_T72 (Kd.R_reads' h).2.2 (k : Int) (by omega) (by omega)
  cases e; cases e2
  exact ⟨by simpa [Addr.add_lit] using c1, blk_frozen hh _⟩
set_option maxHeartbeats 8000000 in
set_option maxRecDepth 100000 in
theorem specF_walk (a0 : ByteArray) (w : World) (hsz : a0.size < 4294967296) : Calls Tryd.prog 23 #[.string a0] w fun e w' =>
    (∃ l v, specL (bytesOf a0 0) [] = some l ∧ l.length ≤ a0.size ∧ e = .returned (.tuple #[v, .bool true]) ∧ Kd.R k72 72 w' w.heap.size (fun _ => True) v l ∧ Below w.heap.size w w') ∨
    (specL (bytesOf a0 0) [] = none ∧ ∃ v, e = .returned (.tuple #[v, .bool false]) ∧ Below w.heap.size w w') := by
  have HB := Aside0.mk (Below.refl w.heap.size w)
  have hmf : ∀ (fn : Fn) (first cap : Array Value) (w : World), (Instr.makeFunc fn first cap).run Tryd.prog w = .ok (.func fn first cap) w := fun _ _ _ _ => rfl
  have eg39 : ∀ args w, (callFunc 39 args).run Tryd.prog w = .ok (.enter 39 args) w := enters_of Tryd.func39 (by kernel_rfl) rfl
  have hz : (a0.size : Int) < 4294967296 := by omega
  generalize hR0 : specL (bytesOf a0 0) [] = R0
  have HR0 := Aside0.mk hR0
  clear hR0
  go_enter Tryd.func23, Tryd.ntmps23
  go_wp2
  go_loopg [4, 10] a0.size (fun gg v4 v10 wr => ∃ (kk : Nat) (ls : List S72), kk ≤ a0.size ∧ a0.size - kk ≤ gg ∧ v10 = .int .i64 kk ∧ ls.length ≤ kk ∧ Aside0 (specL (bytesOf a0 kk) ls = R0) ∧ Aside0 (Kd.R k72 72 wr w.heap.size (fun _ => True) v4 ls) ∧ Aside0 (Below w.heap.size w wr))
  case atStart => exact ⟨0, [], Nat.zero_le _, by omega, rfl, Nat.zero_le _, HR0, ⟨Kd.R_nil _ _ _ _ _⟩, HB⟩
  case round =>
    clear HR0 HB
    obtain ⟨kk, ls, hkk, hg, rfl, hln, HS, HO, HB⟩ := hrel
    obtain ⟨A, cap, eV⟩ := Kd.R_slice HO.out
    subst eV
    by_cases hlt : kk < a0.size
    · have p0 : (0 : Int) ≤ (kk : Int) := by omega
      have q0 : (kk : Int) < (a0.size : Int) := by omega
      have hx0 : ∀ h : kk < a0.size, ((a0[kk]'h).toNat : Int) = bt a0 kk := fun h => by simpa using bt_at a0 (kk : Int) (by simpa using h)
      have EQ := HS.out
      rw [bytesOf_step a0 kk hlt, specL] at EQ
      have HL := Aside0.mk (letter_eq (bt a0 kk))
      cases hlet : letterB (bt a0 kk) with
      | true =>
        rw [hlet] at HL
        by_cases hhas : 0 ≤ idxF ls (bt a0 kk)
        · have p1 := eq_true hhas
          rw [if_neg (by simp [hhas])] at EQ
          by_cases hm : bt a0 kk = 58
          · exact absurd hlet (by rw [hm]; decide)
          · rw [if_neg (by simp [hm])] at EQ
            subst EQ
            go_wp2_with (first
              | ((with_reducible refine gate_dst (N := 6) rfl ?_); refine box_e 6 #[.int .u8 0] 5 ?_; intro g hg w1 hbox hb; have BK := Aside0.mk hbox; have GE := bg_ HB hg; replace HB := bs_ HB hb; replace HO := Aside0.mk (Kd.R_below HO.out hb); clear hb hbox hg; have hf0 := blk_frozen BK.out 0; have hc0 : w1.cell? ⟨g, 0, none⟩ = some (.int .u8 0) := (blk_cell BK.out 0).trans rfl)
              | (go_at_call 37; ((with_reducible refine (arg_letter.calls (bt a0 kk) true _ HL.out).mono ?_); rintro e w2 ⟨rfl, hd⟩; have hb := d0b hd; clear hd hf0 hc0; replace HO := Aside0.mk (Kd.R_below (Kd.R_set HO.out BK.out (by decide) 0 _) hb); replace BK := Aside0.mk (blk_below (o := .cells #[.int .u8 (bt a0 kk)] 5 (0, 0)) (blk_put BK.out 0 _ rfl) hb); replace HB := Aside0.mk (below_step (below_set HB.out GE.out) hb); clear hb; have hc0 : w2.cell? ⟨g, 0, none⟩ = some (.int .u8 (bt a0 kk)) := (blk_cell BK.out 0).trans rfl))
              | (go_at_call 38; (with_reducible refine (flagHas 39 #[.pointer (some ⟨g, 0, none⟩)] (bt a0 kk) eg39 _ _ ls _ (Kd.R_reads' HO.out).2.2 (by omega) ?sh).mono ?_); (case sh => intro W x hb; exact clos39 (bt a0 kk) g x W ((blk_cell (blk_below BK.out hb) 0).trans rfl)); rintro e w3 ⟨rfl, hb⟩; clear hc0; replace HO := Aside0.mk (Kd.R_below HO.out hb); replace BK := Aside0.mk (blk_below BK.out hb); replace HB := Aside0.mk (below_step HB.out hb); clear hb; have hc0 : w3.cell? ⟨g, 0, none⟩ = some (.int .u8 (bt a0 kk)) := (blk_cell BK.out 0).trans rfl))
            go_ret2
            exact ⟨⟨_, rfl⟩, HB.out⟩
        · have p1 := eq_false hhas
          rw [if_pos ⟨hlet, hhas⟩] at EQ
          go_wp2_with (first
            | ((with_reducible refine gate_dst (N := 6) rfl ?_); refine box_e 6 #[.int .u8 0] 5 ?_; intro g hg w1 hbox hb; have BK := Aside0.mk hbox; have GE := bg_ HB hg; replace HB := bs_ HB hb; replace HO := Aside0.mk (Kd.R_below HO.out hb); clear hb hbox hg; have hf0 := blk_frozen BK.out 0; have hc0 : w1.cell? ⟨g, 0, none⟩ = some (.int .u8 0) := (blk_cell BK.out 0).trans rfl)
            | (go_at_call 37; ((with_reducible refine (arg_letter.calls (bt a0 kk) true _ HL.out).mono ?_); rintro e w2 ⟨rfl, hd⟩; have hb := d0b hd; clear hd hf0 hc0; replace HO := Aside0.mk (Kd.R_below (Kd.R_set HO.out BK.out (by decide) 0 _) hb); replace BK := Aside0.mk (blk_below (o := .cells #[.int .u8 (bt a0 kk)] 5 (0, 0)) (blk_put BK.out 0 _ rfl) hb); replace HB := Aside0.mk (below_step (below_set HB.out GE.out) hb); clear hb; have hc0 : w2.cell? ⟨g, 0, none⟩ = some (.int .u8 (bt a0 kk)) := (blk_cell BK.out 0).trans rfl))
            | (go_at_call 38; (with_reducible refine (flagHas 39 #[.pointer (some ⟨g, 0, none⟩)] (bt a0 kk) eg39 _ _ ls _ (Kd.R_reads' HO.out).2.2 (by omega) ?sh).mono ?_); (case sh => intro W x hb; exact clos39 (bt a0 kk) g x W ((blk_cell (blk_below BK.out hb) 0).trans rfl)); rintro e w3 ⟨rfl, hb⟩; clear hc0; replace HO := Aside0.mk (Kd.R_below HO.out hb); replace BK := Aside0.mk (blk_below BK.out hb); replace HB := Aside0.mk (below_step HB.out hb); clear hb; have hc0 : w3.cell? ⟨g, 0, none⟩ = some (.int .u8 (bt a0 kk)) := (blk_cell BK.out 0).trans rfl)
            | ((with_reducible refine gate_builtin (b := .append) (xs := #[.tmp 28, .tmp 31]) rfl ?_); at_builtin; refine Kd.R_append k72 (w0 := w) w.heap.size rfl (.tmp 28) (.tmp 31) 50 72 (.agg #[.int .u8 0, .bool false]) 2 rfl Tryd.underlying50 info72 rfl (by decide) (by omega) (.slice A ls.length cap) ls (⟨bt a0 kk, false⟩ : S72) [.int .u8 (bt a0 kk), .bool false] (fun _ => True) (fun _ => False) rfl rfl ?aP (fun _ hk => hk.elim) ?aF ?aO ?aB ?aS ?aL ?_; (case aP => exact k72_mkM _ _ _ (⟨bt a0 kk, false⟩ : S72)); (case aB => exact HB.out); (case aF => exact (fun _ _ => trivial)); (case aO => exact HO.out); (case aS => exact below_size HB.out); (case aL => omega); intro v1 w4 ho hb hg hat; replace HO := Aside0.mk ho; replace HB := Aside0.mk hb; clear ho hb hg hat hc0))
          go_roundg (a0.size - (kk + 1))
          case measure => omega
          case rel => exact ⟨kk + 1, _, by omega, by omega, by go_num, by first | (simp; omega) | omega, ⟨EQ⟩, HO, HB⟩
      | false =>
        rw [hlet] at HL
        rw [if_neg (by simp [hlet])] at EQ
        by_cases h58 : bt a0 kk = 58
        · rw [h58] at HL hx0 EQ
          rcases Nat.eq_zero_or_pos ls.length with hz0 | hpos
          · rw [if_neg (by omega)] at EQ
            subst EQ
            have hlz : (ls.length : Int) = 0 := by omega
            go_wp2_with (first
              | ((with_reducible refine gate_dst (N := 6) rfl ?_); refine box_e 6 #[.int .u8 0] 5 ?_; intro g hg w1 hbox hb; have BK := Aside0.mk hbox; have GE := bg_ HB hg; replace HB := bs_ HB hb; replace HO := Aside0.mk (Kd.R_below HO.out hb); clear hb hbox hg; have hf0 := blk_frozen BK.out 0; have hc0 : w1.cell? ⟨g, 0, none⟩ = some (.int .u8 0) := (blk_cell BK.out 0).trans rfl)
              | (go_at_call 37; ((with_reducible refine (arg_letter.calls 58 false _ HL.out).mono ?_); rintro e w2 ⟨rfl, hd⟩; have hb := d0b hd; clear hd hf0 hc0; replace HO := Aside0.mk (Kd.R_below (Kd.R_set HO.out BK.out (by decide) 0 _) hb); replace BK := Aside0.mk (blk_below (o := .cells #[.int .u8 58] 5 (0, 0)) (blk_put BK.out 0 _ rfl) hb); replace HB := Aside0.mk (below_step (below_set HB.out GE.out) hb); clear hb; have hc0 : w2.cell? ⟨g, 0, none⟩ = some (.int .u8 58) := (blk_cell BK.out 0).trans rfl)))
            go_ret2
            exact ⟨⟨_, rfl⟩, HB.out⟩
          · obtain ⟨g2, eA, hg2, _⟩ := R72_slice HO.out hpos
            subst eA
            obtain ⟨n, hn⟩ : ∃ n, ls.length = n + 1 := ⟨ls.length - 1, by omega⟩
            rw [hn] at HO EQ ⊢
            rw [show ((n + 1 : Nat) : Int) - 1 = (n : Int) from by omega] at EQ
            have hnn := eq_true (show (n : Int) < (n : Int) + 1 from by omega)
            cases hfl : (rd_T72 ls n).f1 with
            | true =>
              rw [if_neg (by simp [hfl])] at EQ
              subst EQ
              go_wp2_with (first
                | ((with_reducible refine gate_dst (N := 6) rfl ?_); refine box_e 6 #[.int .u8 0] 5 ?_; intro g hg w1 hbox hb; have BK := Aside0.mk hbox; have GE := bg_ HB hg; replace HB := bs_ HB hb; replace HO := Aside0.mk (Kd.R_below HO.out hb); clear hb hbox hg; have hf0 := blk_frozen BK.out 0; have hc0 : w1.cell? ⟨g, 0, none⟩ = some (.int .u8 0) := (blk_cell BK.out 0).trans rfl)
                | (go_at_call 37; ((with_reducible refine (arg_letter.calls 58 false _ HL.out).mono ?_); rintro e w2 ⟨rfl, hd⟩; have hb := d0b hd; clear hd hf0 hc0; replace HO := Aside0.mk (Kd.R_below (Kd.R_set HO.out BK.out (by decide) 0 _) hb); replace BK := Aside0.mk (blk_below (o := .cells #[.int .u8 58] 5 (0, 0)) (blk_put BK.out 0 _ rfl) hb); replace HB := Aside0.mk (below_step (below_set HB.out GE.out) hb); clear hb; obtain ⟨hc1, hf1⟩ := R72_cell HO.out n (by omega); (try rw [hfl] at hc1); have hc0 : w2.cell? ⟨g, 0, none⟩ = some (.int .u8 58) := (blk_cell BK.out 0).trans rfl)))
              go_ret2
              exact ⟨⟨_, rfl⟩, HB.out⟩
            | false =>
              rw [if_pos ⟨rfl, by omega, hfl⟩] at EQ
              go_wp2_with (first
                | ((with_reducible refine gate_dst (N := 6) rfl ?_); refine box_e 6 #[.int .u8 0] 5 ?_; intro g hg w1 hbox hb; have BK := Aside0.mk hbox; have GE := bg_ HB hg; replace HB := bs_ HB hb; replace HO := Aside0.mk (Kd.R_below HO.out hb); clear hb hbox hg; have hf0 := blk_frozen BK.out 0; have hc0 : w1.cell? ⟨g, 0, none⟩ = some (.int .u8 0) := (blk_cell BK.out 0).trans rfl)
                | (go_at_call 37; ((with_reducible refine (arg_letter.calls 58 false _ HL.out).mono ?_); rintro e w2 ⟨rfl, hd⟩; have hb := d0b hd; clear hd hf0 hc0; replace HO := Aside0.mk (Kd.R_below (Kd.R_set HO.out BK.out (by decide) 0 _) hb); replace BK := Aside0.mk (blk_below (o := .cells #[.int .u8 58] 5 (0, 0)) (blk_put BK.out 0 _ rfl) hb); replace HB := Aside0.mk (below_step (below_set HB.out GE.out) hb); clear hb; obtain ⟨hc1, hf1⟩ := R72_cell HO.out n (by omega); (try rw [hfl] at hc1); have hc0 : w2.cell? ⟨g, 0, none⟩ = some (.int .u8 58) := (blk_cell BK.out 0).trans rfl)))
              rw [show n + 1 - 1 = n from by omega] at EQ
              replace HB := Aside0.mk (below_set (v := .bool true) (j := n * 2 + 1) HB.out hg2)
              go_roundg (a0.size - (kk + 1))
              case measure => omega
              case rel => exact ⟨kk + 1, _, by omega, by omega, by go_num, by rw [List.length_set]; omega, ⟨EQ⟩, ⟨R72_mark HO.out n (by omega)⟩, HB⟩
        · have p1 := eq_false h58
          rw [if_neg (by simp [h58])] at EQ
          subst EQ
          go_wp2_with (first
            | ((with_reducible refine gate_dst (N := 6) rfl ?_); refine box_e 6 #[.int .u8 0] 5 ?_; intro g hg w1 hbox hb; have BK := Aside0.mk hbox; have GE := bg_ HB hg; replace HB := bs_ HB hb; replace HO := Aside0.mk (Kd.R_below HO.out hb); clear hb hbox hg; have hf0 := blk_frozen BK.out 0; have hc0 : w1.cell? ⟨g, 0, none⟩ = some (.int .u8 0) := (blk_cell BK.out 0).trans rfl)
            | (go_at_call 37; ((with_reducible refine (arg_letter.calls (bt a0 kk) false _ HL.out).mono ?_); rintro e w2 ⟨rfl, hd⟩; have hb := d0b hd; clear hd hf0 hc0; replace HO := Aside0.mk (Kd.R_below (Kd.R_set HO.out BK.out (by decide) 0 _) hb); replace BK := Aside0.mk (blk_below (o := .cells #[.int .u8 (bt a0 kk)] 5 (0, 0)) (blk_put BK.out 0 _ rfl) hb); replace HB := Aside0.mk (below_step (below_set HB.out GE.out) hb); clear hb; have hc0 : w2.cell? ⟨g, 0, none⟩ = some (.int .u8 (bt a0 kk)) := (blk_cell BK.out 0).trans rfl)))
          go_ret2
          exact ⟨⟨_, rfl⟩, HB.out⟩
    · have q0 : ¬ (kk : Int) < (a0.size : Int) := by omega
      have hk2 : kk = a0.size := by omega
      subst hk2
      go_wp2
      go_ret2
      refine .inl ⟨ls, ?_, hln, _, rfl, HO.out, HB.out⟩
      have EQ := HS.out
      rw [bytesOf_end _ _ (Nat.le_refl _), specL] at EQ
      exact EQ.symm
end Go.Proofs.YtlginoicaeonhaaDoor.P
