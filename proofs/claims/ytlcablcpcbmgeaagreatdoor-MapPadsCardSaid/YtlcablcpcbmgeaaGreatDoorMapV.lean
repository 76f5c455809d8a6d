/- The walks of pick, between, blank and number: what they answer, and that the counter is one further. No conditions beyond those that the lemmas name. -/
import Derived.Test.YtlcablcpcbmgeaaGreatDoorPx0
import Derived.Test.YtlcablcpcbmgeaaGreatDoorPx6
import Derived.Test.YtlcablcpcbmgeaaGreatDoorPx9
namespace Go.Proofs.YtlcablcpcbmgeaaGreatDoor.P
open Go.RowKit Go.Proofs.YtlcablcpcbmgeaaGreatDoorW.PrintWords Go.Proofs.YtlcablcpcbmgeaaGreatDoorW.PrintLast
set_option linter.unusedVariables false
set_option linter.unusedSimpArgs false
/-- The counter's block, made behind w0. -/
def KB (w0 W : World) (g : Nat) (n : Int) : Prop := W.heap[g]? = some (.cells #[.int .i64 n] 3 (0, 0)) ∧ w0.heap.size ≤ g ∧ Below w0.heap.size w0 W
/-- What is not this block stays. -/
def Fr (W w' : World) (g : Nat) : Prop := Kept W w' (fun k => k = g)
theorem Fr.below {W w' : World} {g : Nat} (hb : Below W.heap.size W w') : Fr W w' g := Kept.of_below hb _
theorem Fr.trans {W X w' : World} {g : Nat} (h : Fr W X g) (h2 : Fr X w' g) : Fr W w' g := Kept.then_ h h2 (fun _ hk => .inl hk)
theorem Fr.set (W : World) (g i : Nat) (v : Value) : Fr W (W.setCell ⟨g, i, none⟩ v) g := Kept.setCell (S := fun k => k = g) (p := ⟨g, i, none⟩) (Kept.refl _ _) (.inl rfl) _
theorem KB.bel {w0 W W1 : World} {g : Nat} {n : Int} (h : KB w0 W g n) (hb : Below W.heap.size W W1) : KB w0 W1 g n := ⟨blk_below h.1 hb, h.2.1, below_step h.2.2 hb⟩
theorem KB.put {w0 W : World} {g : Nat} {n : Int} (h : KB w0 W g n) (m : Int) : KB w0 (W.setCell ⟨g, 0, none⟩ (.int .i64 m)) g m := ⟨blk_put h.1 0 _ rfl, h.2.1, below_set h.2.2 h.2.1⟩
/-- The next of some numbers. -/
def padN (l : List Int) (n : Int) : Int := if l.length = 0 then 0 else rd l (n % (l.length : Int))
set_option maxHeartbeats 4000000 in
set_option maxRecDepth 100000 in
theorem pick_walk (w0 W : World) (g : Nat) (A : Option Addr) (c : Nat) (l : List Int) (n : Int) (h : KB w0 W g n) (hC : Kd.C (Kd.int .u8) w0 A l.length l) (hc : l.length ≤ c) (h0 : 0 ≤ n) (h1 : n ≤ 1000000) :
    Calls Tryz.prog 51 #[.slice A l.length c, .pointer (some ⟨g, 0, none⟩)] W fun e w' => e = .returned (.int .u8 (padN l (n + 1))) ∧ KB w0 w' g (n + 1) ∧ Fr W w' g := by
  obtain ⟨v, hv⟩ : ∃ v, v = padN l (n + 1) := ⟨_, rfl⟩
  rw [← hv]
  unfold padN at hv
  have HV := Aside0.mk hv
  clear hv
  have HK := Aside0.mk h
  have HC := Aside0.mk hC
  have i0 := (blk_cell h.1 0).trans (show _ = some (.int .i64 n) from rfl)
  have j0 := blk_frozen h.1 0
  have hw : wrap64 (n + 1) = n + 1 := by unfold wrap64; omega
  clear h hC
  go_enter Tryz.func51, Tryz.ntmps51
  go_upto_region 2 with (fail)
  generalize hW : World.setCell W _ _ = w1
  have HK1 : Aside0 (KB w0 w1 g (n + 1)) := ⟨by rw [← hW]; exact HK.out.put _⟩
  have F1 : Aside0 (Fr W w1 g) := ⟨by rw [← hW]; exact Fr.set W g 0 _⟩
  clear hW i0 j0 hw HK
  have hv := HV.out
  clear HV
  by_cases hz : l.length = 0
  · rw [if_pos hz] at hv
    subst hv
    have pz := eq_true (show (l.length : Int) = 0 by omega)
    have pzb : ((l.length : Int) == 0) = true := beq_iff_eq.mpr (by omega)
    go_wp2
    go_ret
    exact ⟨rfl, HK1.out, F1.out⟩
  · rw [if_neg hz] at hv
    subst hv
    have pz := eq_false (show ¬ (l.length : Int) = 0 by omega)
    have pzb : ((l.length : Int) == 0) = false := beq_eq_false_iff_ne.mpr (by omega)
    have i0 := (blk_cell HK1.out.1 0).trans (show _ = some (.int .i64 (n + 1)) from rfl)
    have hnn := Int.emod_nonneg (n + 1) (show (l.length : Int) ≠ 0 by omega)
    have hlt := Int.emod_lt_of_pos (n + 1) (show 0 < (l.length : Int) by omega)
    obtain ⟨ad, hA, hx⟩ := Kd.at_int (Kd.C_below HC.out HK1.out.2.2) ((n + 1) % (l.length : Int)) hnn hlt
    cases hA
    have p0 := eq_true hnn
    have p1 := eq_true hlt
    have p2 := eq_true (show ((n + 1) % (l.length : Int)).toNat < l.length by omega)
    go_wp2
    go_ret
    exact ⟨rfl, HK1.out, F1.out⟩
def btwT : List ByteArray := [(⟨#[]⟩ : ByteArray), (⟨#[35, 32, 120, 32, 43, 32, 49, 10]⟩ : ByteArray), (⟨#[10]⟩ : ByteArray), (⟨#[32, 9, 10]⟩ : ByteArray), (⟨#[32, 32, 35, 10]⟩ : ByteArray)]
set_option maxHeartbeats 4000000 in
set_option maxRecDepth 100000 in
theorem btw_walk (w0 W : World) (g : Nat) (A : Option Addr) (c : Nat) (l : List Int) (n : Int) (h : KB w0 W g n) (hC : Kd.C (Kd.int .u8) w0 A l.length l) (hc : l.length ≤ c) (h0 : 0 ≤ n) (h1 : n ≤ 1000000) (hv0 : 0 ≤ padN l (n + 1)) :
    Calls Tryz.prog 19 #[.slice A l.length c, .pointer (some ⟨g, 0, none⟩)] W fun e w' => e = .returned (.string (rdOf ByteArray.empty btwT (padN l (n + 1) % 5))) ∧ KB w0 w' g (n + 1) ∧ Fr W w' g := by
  obtain ⟨v, hv⟩ : ∃ v, v = padN l (n + 1) := ⟨_, rfl⟩
  rw [← hv] at hv0 ⊢
  have HV := Aside0.mk hv
  clear hv
  obtain ⟨q, hq⟩ : ∃ q, v % 5 = q := ⟨_, rfl⟩
  rw [hq]
  have hq0 : 0 ≤ q := by omega
  have hq1 : q < 5 := by omega
  have HK := Aside0.mk h
  have HC := Aside0.mk hC
  have HCc := Aside0.mk hc
  have H0 := Aside0.mk h0
  have H1 := Aside0.mk h1
  skip
  have hgl := blk_lt h.1
  have HB := Aside0.mk (Below.refl W.heap.size W)
  clear h hC hc h0 h1
  have hne : W.heap.size ≠ g := by omega
  go_enter Tryz.func19, Tryz.ntmps19
  go_wp2_with (first
    | ((with_reducible refine gate_dst (N := 5) rfl ?_); refine Kd.R_lit Kd.string W.heap.size 9 ?hg (N := 5) ?hd (xs := btwT) (inner := [.string ⟨#[]⟩, .string ⟨#[35, 32, 120, 32, 43, 32, 49, 10]⟩, .string ⟨#[10]⟩, .string ⟨#[32, 9, 10]⟩, .string ⟨#[32, 32, 35, 10]⟩]) (ok := fun k => k ≠ g) (okp := fun k => k ≠ g) ?hr ?hp (fun _ hk => hk) hne (Below.refl _ _) (Nat.le_refl _) (by decide) ?_; (case hd => rfl); (case hg => rfl); (case hr => first | (go_simp; done) | (go_simp; rfl)); (case hp => exact (Reps.one (show Kd.M Kd.string _ _ _ (⟨#[]⟩ : ByteArray) [.string ⟨#[]⟩] from rfl) (Reps.one (show Kd.M Kd.string _ _ _ (⟨#[35, 32, 120, 32, 43, 32, 49, 10]⟩ : ByteArray) [.string ⟨#[35, 32, 120, 32, 43, 32, 49, 10]⟩] from rfl) (Reps.one (show Kd.M Kd.string _ _ _ (⟨#[10]⟩ : ByteArray) [.string ⟨#[10]⟩] from rfl) (Reps.one (show Kd.M Kd.string _ _ _ (⟨#[32, 9, 10]⟩ : ByteArray) [.string ⟨#[32, 9, 10]⟩] from rfl) (Reps.one (show Kd.M Kd.string _ _ _ (⟨#[32, 32, 35, 10]⟩ : ByteArray) [.string ⟨#[32, 32, 35, 10]⟩] from rfl) (Reps.none _ _))))))); intro v1 w1 ho hb hg_ hnew_; clear hg_ hnew_; obtain ⟨A1, c1, rfl⟩ := Kd.R_slice ho; have HO := Aside0.mk ho; have HB1 := Aside0.mk hb; have HK1 := Aside0.mk (HK.out.bel hb); clear ho hb)
    | (go_at_call 51; (with_reducible refine (pick_walk w0 _ g A c l n HK1.out HC.out HCc.out H0.out H1.out).mono ?_); rw [← HV.out]; rintro e w2 ⟨rfl, hk, hf⟩; have HK2 := Aside0.mk hk; have F2 := Aside0.mk (Kept.then_ (Kept.of_below HB1.out (fun k => k = g)) hf (fun _ hk => .inl hk)); have HO2 := Aside0.mk (Kd.R_keptB HO.out hf (fun k hk hs => hk hs)); obtain ⟨ad, hA, hx⟩ := Kd.at_string (Kd.R_reads' HO2.out).2.2 q hq0 hq1; cases hA; clear hk hf))
  go_ret
  exact ⟨rfl, HK2.out, F2.out⟩
def blkT : List ByteArray := [(⟨#[]⟩ : ByteArray), (⟨#[32]⟩ : ByteArray), (⟨#[9]⟩ : ByteArray), (⟨#[32, 32, 9]⟩ : ByteArray)]
set_option maxHeartbeats 4000000 in
set_option maxRecDepth 100000 in
theorem blk_walk (w0 W : World) (g : Nat) (A : Option Addr) (c : Nat) (l : List Int) (n : Int) (h : KB w0 W g n) (hC : Kd.C (Kd.int .u8) w0 A l.length l) (hc : l.length ≤ c) (h0 : 0 ≤ n) (h1 : n ≤ 1000000) (hv0 : 0 ≤ padN l (n + 1)) :
    Calls Tryz.prog 20 #[.slice A l.length c, .pointer (some ⟨g, 0, none⟩)] W fun e w' => e = .returned (.string (rdOf ByteArray.empty blkT (padN l (n + 1) % 4))) ∧ KB w0 w' g (n + 1) ∧ Fr W w' g := by
  obtain ⟨v, hv⟩ : ∃ v, v = padN l (n + 1) := ⟨_, rfl⟩
  rw [← hv] at hv0 ⊢
  have HV := Aside0.mk hv
  clear hv
  obtain ⟨q, hq⟩ : ∃ q, v % 4 = q := ⟨_, rfl⟩
  rw [hq]
  have hq0 : 0 ≤ q := by omega
  have hq1 : q < 4 := by omega
  have HK := Aside0.mk h
  have HC := Aside0.mk hC
  have HCc := Aside0.mk hc
  have H0 := Aside0.mk h0
  have H1 := Aside0.mk h1
  skip
  have hgl := blk_lt h.1
  have HB := Aside0.mk (Below.refl W.heap.size W)
  clear h hC hc h0 h1
  have hne : W.heap.size ≠ g := by omega
  go_enter Tryz.func20, Tryz.ntmps20
  go_wp2_with (first
    | ((with_reducible refine gate_dst (N := 5) rfl ?_); refine Kd.R_lit Kd.string W.heap.size 9 ?hg (N := 5) ?hd (xs := blkT) (inner := [.string ⟨#[]⟩, .string ⟨#[32]⟩, .string ⟨#[9]⟩, .string ⟨#[32, 32, 9]⟩]) (ok := fun k => k ≠ g) (okp := fun k => k ≠ g) ?hr ?hp (fun _ hk => hk) hne (Below.refl _ _) (Nat.le_refl _) (by decide) ?_; (case hd => rfl); (case hg => rfl); (case hr => first | (go_simp; done) | (go_simp; rfl)); (case hp => exact (Reps.one (show Kd.M Kd.string _ _ _ (⟨#[]⟩ : ByteArray) [.string ⟨#[]⟩] from rfl) (Reps.one (show Kd.M Kd.string _ _ _ (⟨#[32]⟩ : ByteArray) [.string ⟨#[32]⟩] from rfl) (Reps.one (show Kd.M Kd.string _ _ _ (⟨#[9]⟩ : ByteArray) [.string ⟨#[9]⟩] from rfl) (Reps.one (show Kd.M Kd.string _ _ _ (⟨#[32, 32, 9]⟩ : ByteArray) [.string ⟨#[32, 32, 9]⟩] from rfl) (Reps.none _ _)))))); intro v1 w1 ho hb hg_ hnew_; clear hg_ hnew_; obtain ⟨A1, c1, rfl⟩ := Kd.R_slice ho; have HO := Aside0.mk ho; have HB1 := Aside0.mk hb; have HK1 := Aside0.mk (HK.out.bel hb); clear ho hb)
    | (go_at_call 51; (with_reducible refine (pick_walk w0 _ g A c l n HK1.out HC.out HCc.out H0.out H1.out).mono ?_); rw [← HV.out]; rintro e w2 ⟨rfl, hk, hf⟩; have HK2 := Aside0.mk hk; have F2 := Aside0.mk (Kept.then_ (Kept.of_below HB1.out (fun k => k = g)) hf (fun _ hk => .inl hk)); have HO2 := Aside0.mk (Kd.R_keptB HO.out hf (fun k hk hs => hk hs)); obtain ⟨ad, hA, hx⟩ := Kd.at_string (Kd.R_reads' HO2.out).2.2 q hq0 hq1; cases hA; clear hk hf))
  go_ret
  exact ⟨rfl, HK2.out, F2.out⟩
/-- A number, in one of several forms. -/
def numF (v : Int) (d x : ByteArray) : ByteArray := if v % 3 = 0 then d else if v % 3 = 1 then x else if x.size < 2 then x else (⟨#[48, 120, 48]⟩ : ByteArray) ++ x.extract 2 x.size
set_option maxHeartbeats 4000000 in
set_option maxRecDepth 100000 in
theorem number_walk (m : Int) (d x : ByteArray) (hd : num_Dec.f m = some d) (hx : num_Hex.f m = some x) (hxs : x.size ≤ 1000) (w0 W : World) (g : Nat) (A : Option Addr) (c : Nat) (l : List Int) (n : Int) (h : KB w0 W g n) (htab : TabAt w0) (hC : Kd.C (Kd.int .u8) w0 A l.length l) (hc : l.length ≤ c) (h0 : 0 ≤ n) (h1 : n ≤ 1000000) (hv0 : 0 ≤ padN l (n + 1)) :
    Calls Tryz.prog 21 #[.int .i64 m, .slice A l.length c, .pointer (some ⟨g, 0, none⟩)] W fun e w' => e = .returned (.string (numF (padN l (n + 1)) d x)) ∧ KB w0 w' g (n + 1) ∧ Fr W w' g := by
  obtain ⟨v, hv⟩ : ∃ v, v = padN l (n + 1) := ⟨_, rfl⟩
  rw [← hv] at hv0 ⊢
  have HV := Aside0.mk hv
  clear hv
  obtain ⟨r, hr⟩ : ∃ r, r = numF v d x := ⟨_, rfl⟩
  rw [← hr]
  unfold numF at hr
  have HR := Aside0.mk hr
  clear hr
  have HK := Aside0.mk h
  have HT := Aside0.mk htab
  have HC := Aside0.mk hC
  have HCc := Aside0.mk hc
  have H0 := Aside0.mk h0
  have H1 := Aside0.mk h1
  skip
  have HD := Aside0.mk hd
  have HX := Aside0.mk hx
  have HXS := Aside0.mk hxs
  clear h htab hC hc h0 h1 hd hx hxs
  go_enter Tryz.func21, Tryz.ntmps21
  go_upto_region 2 with (first
    | (go_at_call 51; (with_reducible refine (pick_walk w0 _ g A c l n HK.out HC.out HCc.out H0.out H1.out).mono ?_); rw [← HV.out]; rintro e w2 ⟨rfl, hk, hf⟩; have HK2 := Aside0.mk hk; have F2 := Aside0.mk hf; clear hk hf))
  have hr := HR.out
  clear HR
  have hT2 : Aside0 (TabAt w2) := ⟨HT.out.below HK2.out.2.2⟩
  rcases (show v % 3 = 0 ∨ v % 3 = 1 ∨ v % 3 = 2 by omega) with e | e | e
  · rw [if_pos e] at hr
    subst hr
    rw [e]
    go_wp2_with (first
      | (go_at_call 22; (with_reducible refine (num_Dec.calls m r _ HD.out hT2.out).mono ?_); rintro e w3 ⟨rfl, hb⟩; have HB3 := Aside0.mk hb; clear hb))
    go_ret
    exact ⟨rfl, HK2.out.bel HB3.out, F2.out.trans (Fr.below HB3.out)⟩
  · rw [if_neg (by omega), if_pos e] at hr
    subst hr
    rw [e]
    go_wp2_with (first
      | (go_at_call 26; (with_reducible refine (num_Hex.calls m r _ HX.out hT2.out).mono ?_); rintro e w3 ⟨rfl, hb⟩; have HB3 := Aside0.mk hb; clear hb))
    go_ret
    exact ⟨rfl, HK2.out.bel HB3.out, F2.out.trans (Fr.below HB3.out)⟩
  · rw [if_neg (by omega), if_neg (by omega)] at hr
    rw [e]
    by_cases hs : x.size < 2
    · rw [if_pos hs] at hr
      subst hr
      have ps := eq_true (show (r.size : Int) < 2 by omega)
      go_wp2_with (first
        | (go_at_call 26; (with_reducible refine (num_Hex.calls m r _ HX.out hT2.out).mono ?_); rintro e w3 ⟨rfl, hb⟩; have HB3 := Aside0.mk hb; clear hb))
      go_ret
      exact ⟨rfl, HK2.out.bel HB3.out, F2.out.trans (Fr.below HB3.out)⟩
    · rw [if_neg hs] at hr
      subst hr
      have ps := eq_false (show ¬ (x.size : Int) < 2 by omega)
      have ps2 := eq_true (show (2 : Int) ≤ (x.size : Int) by omega)
      have ps3 := eq_true (show 2 ≤ x.size by omega)
      have hz := HXS.out
      go_wp2_with (first
        | (go_at_call 26; (with_reducible refine (num_Hex.calls m x _ HX.out hT2.out).mono ?_); rintro e w3 ⟨rfl, hb⟩; have HB3 := Aside0.mk hb; clear hb))
      go_ret
      exact ⟨rfl, HK2.out.bel HB3.out, F2.out.trans (Fr.below HB3.out)⟩
def bT (l : List Int) (m : Int) : ByteArray := rdOf ByteArray.empty btwT (padN l m % 5)
def kT (l : List Int) (m : Int) : ByteArray := rdOf ByteArray.empty blkT (padN l m % 4)
def nT (l : List Int) (m q : Int) : ByteArray := numF (padN l m) ((num_Dec.f q).getD ByteArray.empty) ((num_Hex.f q).getD ByteArray.empty)
theorem btw_at (w0 W : World) (g : Nat) (A : Option Addr) (c : Nat) (l : List Int) (n m : Int) (hm : n + 1 = m) (h : KB w0 W g n) (hC : Kd.C (Kd.int .u8) w0 A l.length l) (hc : l.length ≤ c) (h0 : 0 ≤ n) (h1 : n ≤ 1000000) (hv0 : ∀ m, 0 ≤ padN l m) :
    Calls Tryz.prog 19 #[.slice A l.length c, .pointer (some ⟨g, 0, none⟩)] W fun e w' => e = .returned (.string (bT l m)) ∧ KB w0 w' g m ∧ Fr W w' g := by
  subst hm
  exact btw_walk w0 W g A c l n h hC hc h0 h1 (hv0 _)
theorem blk_at (w0 W : World) (g : Nat) (A : Option Addr) (c : Nat) (l : List Int) (n m : Int) (hm : n + 1 = m) (h : KB w0 W g n) (hC : Kd.C (Kd.int .u8) w0 A l.length l) (hc : l.length ≤ c) (h0 : 0 ≤ n) (h1 : n ≤ 1000000) (hv0 : ∀ m, 0 ≤ padN l m) :
    Calls Tryz.prog 20 #[.slice A l.length c, .pointer (some ⟨g, 0, none⟩)] W fun e w' => e = .returned (.string (kT l m)) ∧ KB w0 w' g m ∧ Fr W w' g := by
  subst hm
  exact blk_walk w0 W g A c l n h hC hc h0 h1 (hv0 _)
theorem number_at (q : Int) (hn : ∃ d x, num_Dec.f q = some d ∧ num_Hex.f q = some x ∧ d.size ≤ 20 ∧ x.size ≤ 20) (w0 W : World) (g : Nat) (A : Option Addr) (c : Nat) (l : List Int) (n m : Int) (hm : n + 1 = m) (h : KB w0 W g n) (htab : TabAt w0) (hC : Kd.C (Kd.int .u8) w0 A l.length l) (hc : l.length ≤ c) (h0 : 0 ≤ n) (h1 : n ≤ 1000000) (hv0 : ∀ m, 0 ≤ padN l m) :
    Calls Tryz.prog 21 #[.int .i64 q, .slice A l.length c, .pointer (some ⟨g, 0, none⟩)] W fun e w' => e = .returned (.string (nT l m q)) ∧ KB w0 w' g m ∧ Fr W w' g := by
  subst hm
  obtain ⟨d, x, hd, hx, _, hs⟩ := hn
  unfold nT
  rw [hd, hx]
  exact number_walk q d x hd hx (by omega) w0 W g A c l n h htab hC hc h0 h1 (hv0 _)
theorem KB.b {w0 W : World} {g : Nat} {n : Int} (h : KB w0 W g n) : Below w0.heap.size w0 W := h.2.2
theorem KB.far {w0 W : World} {g q : Nat} {n : Int} (h : KB w0 W g n) (hq : w0.heap.size ≤ q) (hne : g ≠ q) (i : Nat) (v : Value) : KB w0 (W.setCell ⟨q, i, none⟩ v) g n := ⟨blk_far h.1 hne v, h.2.1, below_set h.2.2 hq⟩
theorem KB.drew {w0 W : World} {g : Nat} {n : Int} (h : KB w0 W g n) : KB w0 W.drew g n := ⟨h.1, h.2.1, below_drew1 h.2.2⟩
end Go.Proofs.YtlcablcpcbmgeaaGreatDoor.P
