/- The pure statement of MapPads: blanks, remarks, lines without words, numbers in decimal turn nothing; nor does a last line without its end. No conditions. -/
import Derived.Test.YtlcablcpcbmgeaaGreatDoorPx0
import Derived.Test.YtlcablcpcbmgeaaGreatDoorPx6
import Derived.Test.YtlcablcpcbmgeaaGreatDoorPx9
import Derived.Test.YtlcablcpcbmgeaaGreatDoorPx21
import Derived.Test.YtlcablcpcbmgeaaGreatDoorPx22
import Derived.Test.YtlcablcpcbmgeaaGreatDoorPx23
import Derived.Test.YtlcablcpcbmgeaaGreatDoorMapU
import Derived.Test.YtlcablcpcbmgeaaGreatDoorMapS
import Derived.Test.YtlcablcpcbmgeaaGreatDoorMapD
import Derived.Test.YtlcablcpcbmgeaaGreatDoorPureMapRuns
import Derived.Test.YtlcablcpcbmgeaaGreatDoorOpen
-- names: salvorlaw17_MapRuns.f num_Dec.f num_Hex.f salvorref16_SameMap.f maptext_Parse.f
namespace Go.Proofs.YtlcablcpcbmgeaaGreatDoor.Pure
open Go.RowKit Go.Lib Go.Proofs.YtlcablcpcbmgeaaGreatDoorW.PrintWords Go.Proofs.YtlcablcpcbmgeaaGreatDoorW.PrintLast Go.Proofs.YtlcablcpcbmgeaaGreatDoorW.PrintMore Go.Proofs.YtlcablcpcbmgeaaGreatDoor.P Go.Proofs.YtlcablcpcbmgeaaGreatDoor.Open Go.Proofs.YtlcablcpcbmgeaaGreatDoor.PureM Go.Proofs.YtlcablcpcbmgeaaGreatDoor.Reg Go.Proofs.YtlcablcpcbmgeaaGreatDoor.Num
set_option linter.unusedVariables false
set_option linter.unusedSimpArgs false
theorem runsQ_ev : Ev (fun k => salvorlaw17_MapRuns.f k) true := by
  obtain ⟨k, h⟩ := MapRuns
  exact Ev.of salvorlaw17_MapRuns.mono h
theorem sameQ_ev (a b c : Int) (l : List S23) (hl : l.length ≤ 4611686018427387904) : Ev (fun k => salvorref16_SameMap.f k a b c l a b c l) true := by
  unfold salvorref16_SameMap.f
  simp only [if_true]
  exact Ev.bind (same_self l hl) (Ev.now _)
def dQ (q : Int) : ByteArray := ofL (decDigits q.toNat)
def xQ (q : Int) : ByteArray := ofL (hexT q.toNat)
theorem dQ_f (q : Int) (h0 : 0 ≤ q) (h1 : q ≤ 255) : num_Dec.f q = some (dQ q) := by
  rw [PureN.itoa_f q (by omega) (by omega), itoa_nn h0]; rfl
theorem xQ_f (q : Int) (h0 : 0 ≤ q) (h1 : q ≤ 255) : num_Hex.f q = some (xQ q) := by
  rw [PureN.hex_f q (by omega), if_neg (by omega)]; rfl
theorem size_ofL (l : List UInt8) : (ofL l).size = l.length := List.size_toArray ..
theorem dQ_size (q : Int) (h0 : 0 ≤ q) (h1 : q ≤ 255) : (dQ q).size ≤ 3 := by
  have := dec_len 2 q.toNat (by omega)
  unfold dQ; rw [size_ofL]; exact this
theorem hexT_size (q : Int) (h0 : 0 ≤ q) (h1 : q ≤ 255) : (hexT q.toNat).length ≤ 12 ∧ 10 ≤ (hexT q.toNat).length := by
  have h := hexl_len 1 q.toNat (by omega)
  refine ⟨?_, hexT_len _⟩
  rw [hexT_eq]
  simp only [List.length_append, List.length_replicate, upper_len, List.length_cons, List.length_nil]
  omega
theorem nums (q : Int) (h0 : 0 ≤ q) (h1 : q ≤ 255) : ∃ d x, num_Dec.f q = some d ∧ num_Hex.f q = some x ∧ d.size ≤ 20 ∧ x.size ≤ 20 :=
  ⟨dQ q, xQ q, dQ_f q h0 h1, xQ_f q h0 h1, by have := dQ_size q h0 h1; omega, by unfold xQ; rw [size_ofL]; have := (hexT_size q h0 h1).1; omega⟩
/-- A number in one of its forms. -/
theorem nT_ok (l : List Int) (m q : Int) (hp : 0 ≤ padN l m) (h0 : 0 ≤ q) (h1 : q ≤ 255) : wdOk (nT l m q).data.toList ∧ placeA (nT l m q) = some q.toNat ∧ (nT l m q).size ≤ 30 := by
  have hMX : q.toNat ≤ MX := by unfold MX; omega
  obtain ⟨s1, s2⟩ := hexT_size q h0 h1
  unfold nT
  rw [dQ_f q h0 h1, xQ_f q h0 h1]
  show wdOk (numF (padN l m) (dQ q) (xQ q)).data.toList ∧ placeA (numF (padN l m) (dQ q) (xQ q)) = some q.toNat ∧ (numF (padN l m) (dQ q) (xQ q)).size ≤ 30
  unfold numF
  split
  · unfold dQ placeA
    rw [data_ofL]
    exact ⟨wd_dec _, place_dec _ hMX, by have := dQ_size q h0 h1; unfold dQ at this; omega⟩
  split
  · unfold xQ placeA
    rw [data_ofL]
    exact ⟨wd_hex _, place_hex _ hMX, by rw [size_ofL]; omega⟩
  · rw [if_neg (by unfold xQ; rw [size_ofL]; omega)]
    have e : ((⟨#[48, 120, 48]⟩ : ByteArray) ++ (xQ q).extract 2 (xQ q).size) = ofL (48 :: 120 :: 48 :: (hexT q.toNat).drop 2) := by
      rw [ext_ofL]
      unfold xQ
      rw [data_ofL, size_ofL, List.take_of_length_le (by rw [List.length_drop]; omega)]
      apply ByteArray.ext; apply Array.ext'
      simp [ofL]
    rw [e]
    unfold placeA
    rw [data_ofL]
    refine ⟨⟨by simp, fun c hc => ?_⟩, place_0x0 _ (by omega), by rw [size_ofL]; simp only [List.length_cons, List.length_drop]; omega⟩
    rcases List.mem_cons.1 hc with rfl | hc
    · decide
    rcases List.mem_cons.1 hc with rfl | hc
    · decide
    rcases List.mem_cons.1 hc with rfl | hc
    · decide
    · have := hexT_big q.toNat c (List.mem_of_mem_drop hc); omega
theorem mod5 (v : Int) (h : 0 ≤ v) : v % 5 = 0 ∨ v % 5 = 1 ∨ v % 5 = 2 ∨ v % 5 = 3 ∨ v % 5 = 4 := by omega
theorem mod4 (v : Int) (h : 0 ≤ v) : v % 4 = 0 ∨ v % 4 = 1 ∨ v % 4 = 2 ∨ v % 4 = 3 := by omega
/-- Blanks, or none. -/
theorem kT_ok (l : List Int) (m : Int) (hp : 0 ≤ padN l m) : blOk (kT l m).data.toList ∧ (kT l m).size ≤ 3 := by
  unfold kT blOk
  rcases mod4 _ hp with e | e | e | e <;> rw [e] <;> exact ⟨by decide, by decide⟩
/-- Lines that are passed by. -/
theorem bT_ok (l : List Int) (m : Int) (hp : 0 ≤ padN l m) (r : List UInt8) : linesW ((bT l m).data.toList ++ r) = linesW r := by
  unfold bT
  rcases mod5 _ hp with e | e | e | e | e <;> rw [e]
  · rfl
  · show linesW ([35, 32, 120, 32, 43, 32, 49] ++ 10 :: r) = _
    rw [linesW_line _ r (by decide), if_pos (by decide +kernel)]; rfl
  · show linesW ([] ++ 10 :: r) = _
    rw [linesW_line _ r (by decide), if_pos (by decide +kernel)]; rfl
  · show linesW ([32, 9] ++ 10 :: r) = _
    rw [linesW_line _ r (by decide), if_pos (by decide +kernel)]; rfl
  · show linesW ([32, 32, 35] ++ 10 :: r) = _
    rw [linesW_line _ r (by decide), if_pos (by decide +kernel)]; rfl
theorem bT_size (l : List Int) (m : Int) (hp : 0 ≤ padN l m) : (bT l m).size ≤ 8 := by
  unfold bT
  rcases mod5 _ hp with e | e | e | e | e <;> rw [e] <;> decide
theorem pad_nn (l : List Int) (h : ∀ x ∈ l, 0 ≤ x) (m : Int) : 0 ≤ padN l m := by
  unfold padN
  split
  · exact Int.le_refl 0
  · unfold rd
    rw [List.getD_eq_getElem?_getD]
    cases e : l[(m % (l.length : Int)).toNat]? with
    | none => exact Int.le_refl 0
    | some x => exact h x (List.mem_of_getElem? e)
theorem aq_data (a b : ByteArray) : (a ++ b).data.toList = a.data.toList ++ b.data.toList := by simp
def D (s : ByteArray) : List UInt8 := s.data.toList
/-- One region's line, without its end. -/
def rowL (l : List Int) (n : Int) (r : S23) : List UInt8 := D (nT l (n + 2) r.f0) ++ (((9 : UInt8) :: D (kT l (n + 3))) ++ (D (nT l (n + 4) r.f1) ++ ([32] ++ ([UInt8.ofNat r.f2.toNat] ++ D (kT l (n + 5))))))
def rowsQ (l : List Int) (n : Int) : List S23 → List UInt8
  | [] => []
  | [r] => D (bT l (n + 1)) ++ rowL l n r
  | r :: q :: t => D (bT l (n + 1)) ++ (rowL l n r ++ 10 :: rowsQ l (n + 5) (q :: t))
theorem rowP_data (l : List Int) (s : ByteArray) (n : Int) (r : S23) : D (rowP l s n r) = D s ++ (D (bT l (n + 1)) ++ rowL l n r) := by
  unfold rowP rowL D
  simp only [aq_data, List.append_assoc, strOfNums]
  rfl
theorem rowsP_data (l : List Int) : ∀ (t : List S23) (s : ByteArray) (n : Int), D (rowsP l s n t) = D s ++ rowsQ l n t
  | [], s, n => by rw [rowsP, rowsQ, List.append_nil]
  | [r], s, n => by rw [rowsP, rowsQ]; exact rowP_data l s n r
  | r :: q :: t, s, n => by
    rw [rowsP, rowsQ, rowsP_data l (q :: t)]
    have e : D (rowP l s n r ++ (⟨#[10]⟩ : ByteArray)) = D s ++ (D (bT l (n + 1)) ++ rowL l n r) ++ [10] := by
      rw [← rowP_data]; unfold D; rw [aq_data]
    rw [e]
    simp [List.append_assoc]
def rowX (l : List Int) (n : Int) (r : S23) : List ByteArray := [ofL (D (nT l (n + 2) r.f0)), ofL (D (nT l (n + 4) r.f1)), ofL [UInt8.ofNat r.f2.toNat]]
def rowsX (l : List Int) (n : Int) : List S23 → List (List ByteArray)
  | [] => []
  | r :: t => rowX l n r :: rowsX l (n + 5) t
def Ok (r : S23) : Prop := 0 ≤ r.f0 ∧ r.f0 ≤ 255 ∧ 1 ≤ r.f1 ∧ r.f1 ≤ 255 ∧ isS r.f2 = true
theorem bl_cons (c : UInt8) (b : List UInt8) (hc : blB c = true) (hb : blOk b) : blOk (c :: b) := fun x hx => (List.mem_cons.1 hx).elim (fun e => e ▸ hc) (hb x)
theorem rows_lines_q (l : List Int) (hp : ∀ m, 0 ≤ padN l m) : ∀ (t : List S23) (n : Int), (∀ r ∈ t, Ok r) → linesW (rowsQ l n t) = rowsX l n t
  | [], n, _ => rfl
  | [r], n, h => by
    obtain ⟨a0, a1, a2, a3, a4⟩ := h r (List.mem_cons_self ..)
    rw [rowsQ]
    unfold D
    rw [bT_ok l _ (hp _)]
    have e := linesW_three_last [] (9 :: D (kT l (n + 3))) [32] (D (kT l (n + 5))) (D (nT l (n + 2) r.f0)) (D (nT l (n + 4) r.f1)) [UInt8.ofNat r.f2.toNat] bl_nil (bl_cons 9 _ (by decide) (kT_ok l _ (hp _)).1) bl_sp (kT_ok l _ (hp _)).1 (by simp) (by simp) (nT_ok l _ _ (hp _) a0 a1).1 (nT_ok l _ _ (hp _) (by omega) a3).1 (st_byte a4).1
    exact e
  | r :: q :: t, n, h => by
    obtain ⟨a0, a1, a2, a3, a4⟩ := h r (List.mem_cons_self ..)
    rw [rowsQ]
    show linesW ((bT l (n + 1)).data.toList ++ _) = _
    rw [bT_ok l _ (hp _)]
    have e := linesW_three [] (9 :: D (kT l (n + 3))) [32] (D (kT l (n + 5))) (D (nT l (n + 2) r.f0)) (D (nT l (n + 4) r.f1)) [UInt8.ofNat r.f2.toNat] (rowsQ l (n + 5) (q :: t)) bl_nil (bl_cons 9 _ (by decide) (kT_ok l _ (hp _)).1) bl_sp (kT_ok l _ (hp _)).1 (by simp) (by simp) (nT_ok l _ _ (hp _) a0 a1).1 (nT_ok l _ _ (hp _) (by omega) a3).1 (st_byte a4).1
    rw [rows_lines_q l hp (q :: t) (n + 5) (fun x hx => h x (List.mem_cons_of_mem _ hx))] at e
    exact e
theorem rows_ok (l : List Int) (hp : ∀ m, 0 ≤ padN l m) : ∀ (t : List S23) (n : Int), (∀ r ∈ t, Ok r) → PureM.Rows t (rowsX l n t) ∧ (rowsX l n t).all (fun w => decide (w.length = 3)) = true
  | [], n, _ => ⟨trivial, rfl⟩
  | r :: t, n, h => by
    obtain ⟨a0, a1, a2, a3, a4⟩ := h r (List.mem_cons_self ..)
    obtain ⟨i1, i2⟩ := rows_ok l hp t (n + 5) (fun x hx => h x (List.mem_cons_of_mem _ hx))
    refine ⟨⟨⟨?_, ?_, (st_byte a4).2⟩, i1⟩, ?_⟩
    · show placeA (ofL (nT l (n + 2) r.f0).data.toList) = _
      rw [ofL_data]; exact (nT_ok l _ _ (hp _) a0 a1).2.1
    · show placeA (ofL (nT l (n + 4) r.f1).data.toList) = _
      rw [ofL_data]; exact (nT_ok l _ _ (hp _) (by omega) a3).2.1
    · rw [rowsX, List.all_cons, i2]; rfl
theorem rowsP_size (l : List Int) (hp : ∀ m, 0 ≤ padN l m) : ∀ (t : List S23) (s : ByteArray) (n : Int), (∀ r ∈ t, Ok r) → (rowsP l s n t).size ≤ s.size + 80 * t.length
  | [], s, n, _ => by rw [rowsP]; simp
  | r :: t, s, n, h => by
    obtain ⟨a0, a1, a2, a3, a4⟩ := h r (List.mem_cons_self ..)
    have z : (rowP l s n r).size ≤ s.size + 79 := by
      have z1 := bT_size l (n + 1) (hp _)
      have z2 := (nT_ok l (n + 2) r.f0 (hp _) a0 a1).2.2
      have z3 := (kT_ok l (n + 3) (hp _)).2
      have z4 := (nT_ok l (n + 4) r.f1 (hp _) (by omega) a3).2.2
      have z5 := (kT_ok l (n + 5) (hp _)).2
      unfold rowP
      simp only [ByteArray.size_append, sz9, sz32, show (strOfNums [r.f2]).size = 1 from rfl]; omega
    cases t with
    | nil => rw [rowsP]; simp only [List.length_cons, List.length_nil]; omega
    | cons q t =>
      rw [rowsP]
      have := rowsP_size l hp (q :: t) (rowP l s n r ++ (⟨#[10]⟩ : ByteArray)) (n + 5) (fun x hx => h x (List.mem_cons_of_mem _ hx))
      rw [ByteArray.size_append, sz10] at this
      simp only [List.length_cons] at this ⊢; omega
theorem dT_eq (q : Int) (h0 : 0 ≤ q) (h1 : q ≤ 255) : dT q = dQ q := by unfold dT; rw [dQ_f q h0 h1]; rfl
theorem head_lines_q (l : List Int) (hp : ∀ m, 0 ≤ padN l m) (pos pass : Int) (h0 : 0 ≤ pos) (h1 : pos ≤ 255) (g0 : 0 ≤ pass) (g1 : pass ≤ 255) (r : List UInt8) :
    linesW (D (headP l pos pass) ++ r) = [ofL (D (nT l 3 pos)), ofL [45], ofL (D (dT pass))] :: linesW r := by
  have e : D (headP l pos pass) ++ r = D (bT l 1) ++ ((D (kT l 2) ++ (D (nT l 3 pos) ++ (((32 : UInt8) :: D (kT l 4)) ++ ([45] ++ ([9] ++ (D (dT pass) ++ D (kT l 5))))))) ++ 10 :: r) := by
    unfold headP D
    simp only [aq_data, List.append_assoc]
    rfl
  rw [e]
  show linesW ((bT l 1).data.toList ++ _) = _
  rw [bT_ok l _ (hp _)]
  have hd : wdOk (D (dT pass)) := by
    rw [dT_eq pass g0 g1]; unfold D dQ; rw [data_ofL]; exact wd_dec _
  exact linesW_three (D (kT l 2)) (32 :: D (kT l 4)) [9] (D (kT l 5)) (D (nT l 3 pos)) [45] (D (dT pass)) r (kT_ok l _ (hp _)).1 (bl_cons 32 _ (by decide) (kT_ok l _ (hp _)).1) (fun c hc => by obtain rfl := List.mem_singleton.1 hc; decide) (kT_ok l _ (hp _)).1 (by simp) (by simp) (nT_ok l _ _ (hp _) h0 h1).1 ⟨by simp, by decide⟩ hd
theorem pads_res (l : List Int) (hp : ∀ m, 0 ≤ padN l m) (pos pass : Int) (T : List S23) (h0 : 0 ≤ pos) (h1 : pos ≤ endOf 0 T) (hE : endOf 0 T ≤ 255) (g0 : 0 ≤ pass) (g1 : pass ≤ 20) (hm : mayL 0 none T = true) (hok : ∀ r ∈ T, Ok r) :
    resL (linesW (D (rowsP l (headP l pos pass) 5 T))) = (pos, pass, 45, T, 0) := by
  rw [rowsP_data, head_lines_q l hp pos pass h0 (by omega) g0 (by omega), rows_lines_q l hp T 5 hok]
  obtain ⟨k1, k2⟩ := rows_ok l hp T 5 hok
  have hmm : mayMap pos pass 45 T = true := by
    unfold mayMap
    rw [hm, decide_eq_true h0, decide_eq_true h1, decide_eq_true g0, decide_eq_true g1]; rfl
  have hr := regL_back T (rowsX l 5 T) [] k1 (by rw [List.nil_append]; exact hm)
  rw [List.nil_append] at hr
  have hx : placeA (ofL (D (nT l 3 pos))) = some pos.toNat := by
    unfold D; rw [ofL_data]; exact (nT_ok l _ _ (hp _) h0 (by omega)).2.1
  have hd : decW (ofL (D (dT pass))) = some pass.toNat := by
    unfold D; rw [ofL_data, dT_eq pass g0 (by omega)]
    unfold decW dQ; rw [data_ofL]; exact getdec_dec _ (by unfold MX; omega)
  have hb := mapL_back (x := [ofL (D (nT l 3 pos)), ofL [45], ofL (D (dT pass))]) hmm ⟨hx, (by decide +kernel : stP (ofL [45]) = some 45), hd⟩ hr h0 g0
  unfold resL
  rw [if_pos, hb]
  rw [List.all_cons, k2]; rfl
theorem ok_all_q : ∀ (l : List S23) (e : Int) (p : Option Int), mayL e p l = true → 0 ≤ e → endOf e l ≤ 255 → ∀ r ∈ l, Ok r
  | [], _, _, _, _, _ => fun r h => by cases h
  | q :: l, e, p, h, h0, h1 => by
    obtain ⟨e0, e1, e2, e3, _, e5⟩ := mayL_cons h
    have h1' : endOf (e + q.f1) l ≤ 255 := h1
    have hb := (mayL_end e5 (by omega)).1
    intro r hr
    rcases List.mem_cons.1 hr with rfl | hr
    · exact ⟨by omega, by omega, e1, by omega, e3⟩
    · exact ok_all_q l _ _ e5 (by omega) h1' r hr
theorem pads_true (a0 a2 a3 : Int) (w0 : (Lit.int .u8 a0).wf = true) (w2 : (Lit.int .u8 a2).wf = true) (w3 : (Lit.int .u8 a3).wf = true) (A1 : Option Addr) (c1 : Nat) (l1 : List S75) (w1 : ∀ x_ ∈ l1, WF75 x_) (A4 : Option Addr) (c4 : Nat) (l4 : List Int) (w4 : ∀ x_ ∈ l4, (Lit.int .u8 x_).wf = true)
    (W : World) (hr1 : Kd.C k75 W A1 l1.length l1) (hc1 : l1.length ≤ c1) (hr4 : Kd.C (Kd.int .u8) W A4 l4.length l4) (hc4 : l4.length ≤ c4) (htab : TabAt W) :
    Calls Tryz.prog 8 #[.int .u8 a0, .slice A1 l1.length c1, .int .u8 a2, .int .u8 a3, .slice A4 l4.length c4] W fun e w' => e = .returned (.bool true) ∧ Below W.heap.size W w' := by
  have r0 := u8_range w0
  have r2 := u8_range w2
  have r3 := u8_range w3
  have hp : ∀ m, 0 ≤ padN l4 m := pad_nn l4 (fun x hx => (u8_range (w4 x hx)).1)
  by_cases h : 20 < l1.length ∨ a0 = 0
  · exact pads_runs a0 a2 a3 A1 c1 l1 A4 c4 l4 W htab h (Ev.rounds runsQ_ev)
  · have h1 : l1.length ≤ 20 := by
      by_cases c : 20 < l1.length
      · exact absurd (.inl c) h
      · omega
    have h2 : 1 ≤ a0 := by
      by_cases c : a0 = 0
      · exact absurd (.inr c) h
      · omega
    obtain ⟨T, hT, hm, hE⟩ := made_ev a0 r0.1 r0.2 l1 (fun c hc => ⟨u8_range (w1 c hc).1, u8_range (w1 c hc).2.1, u8_range (w1 c hc).2.2⟩) (by omega)
    have hlen := (mayL_end hm (by omega)).1
    have hok := ok_all_q T 0 none hm (by omega) (by omega)
    have q0 := Int.emod_nonneg a2 (show a0 + 1 ≠ 0 by omega)
    have q1 := Int.emod_lt_of_pos a2 (show 0 < a0 + 1 by omega)
    have hsz := rowsP_size l4 hp T (headP l4 (a2 % (a0 + 1)) (a3 % 21)) 5 hok
    have hhs : (headP l4 (a2 % (a0 + 1)) (a3 % 21)).size ≤ 100 := by
      have z1 := bT_size l4 1 (hp _)
      have z2 := (kT_ok l4 2 (hp _)).2
      have z3 := (nT_ok l4 3 (a2 % (a0 + 1)) (hp _) q0 (by omega)).2.2
      have z4 := (kT_ok l4 4 (hp _)).2
      have z5 := (kT_ok l4 5 (hp _)).2
      have z6 := dQ_size (a3 % 21) (by omega) (by omega)
      unfold headP
      rw [dT_eq (a3 % 21) (by omega) (by omega)]
      simp only [ByteArray.size_append, sz9, sz10, sz32, sz45]; omega
    have hpe := parse_ev (rowsP l4 (headP l4 (a2 % (a0 + 1)) (a3 % 21)) 5 T) (by omega)
    rw [show linesW (rowsP l4 (headP l4 (a2 % (a0 + 1)) (a3 % 21)) 5 T).data.toList = linesW (D (rowsP l4 (headP l4 (a2 % (a0 + 1)) (a3 % 21)) 5 T)) from rfl, pads_res l4 hp (a2 % (a0 + 1)) (a3 % 21) T q0 (by omega) (by omega) (by omega) (by omega) hm hok] at hpe
    refine pads_walk a0 a2 a3 h2 r0.2 r2.1 r2.2 r3.1 r3.2 A1 c1 l1 A4 c4 l4 W hr1 hc1 hr4 hc4 htab h1 hp T (by omega) (fun i hi => ?_) (Ev.rounds hT) (fun m => bT_size l4 m (hp m)) (fun m => (kT_ok l4 m (hp m)).2) (fun m q g0 g1 => (nT_ok l4 m q (hp m) g0 g1).2.2) (fun q g0 g1 => by rw [dT_eq q g0 g1]; have := dQ_size q g0 g1; omega) nums (Ev.rounds hpe) (Ev.rounds (sameQ_ev _ _ _ T (by omega))) (Ev.rounds runsQ_ev)
    have e : rd_T23 T (i : Int) = T[i] := by simp [rd_T23, hi]
    obtain ⟨a0', a1', a2', a3', _⟩ := hok T[i] (List.getElem_mem hi)
    unfold Sm
    rw [e]
    exact ⟨a0', a1', by omega, a3'⟩
end Go.Proofs.YtlcablcpcbmgeaaGreatDoor.Pure
