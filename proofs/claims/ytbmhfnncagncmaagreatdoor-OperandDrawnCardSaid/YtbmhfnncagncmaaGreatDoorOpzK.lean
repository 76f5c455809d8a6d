import Derived.Test.YtbmhfnncagncmaaGreatDoorOprS
import Derived.Test.YtbmhfnncagncmaaGreatDoorOpzY
section
namespace Go.Proofs.YtbmhfnncagncmaaGreatDoor.Pure
open Go.RowKit Go.Proofs.YtbmhfnncagncmaaGreatDoorW.PrintWords Go.Proofs.YtbmhfnncagncmaaGreatDoorW.PrintLast Go.Proofs.YtbmhfnncagncmaaGreatDoor.P
set_option linter.unusedVariables false
set_option linter.unusedSimpArgs false
def convK : ByteArray := ⟨#[99, 111, 110, 118]⟩
def iflagK : ByteArray := ⟨#[105, 102, 108, 97, 103]⟩
theorem convK_l : convK.toList = [99, 111, 110, 118] := by decide +kernel
theorem iflagK_l : iflagK.toList = [105, 102, 108, 97, 103] := by decide +kernel
def rinF (ifl : Bool) : List ByteArray → PL → Bool × PL
 | [], p => (true, p)
 | w :: ws, p => if ifl = true then (if isFull w = true then rinF ifl ws { p with full := true } else (false, p)) else if (convS p w).2 = true then rinF ifl ws (convS p w).1 else (false, (convS p w).1)
def routF : List S68 → PL → Bool × PL
 | [], p => (true, p)
 | o :: l, p => if o.f0.toList = convK.toList ∨ o.f0.toList = iflagK.toList then (if (rinF (o.f0.toList == iflagK.toList) (wordsOf o.f1) p).1 = true then routF l (rinF (o.f0.toList == iflagK.toList) (wordsOf o.f1) p).2 else (false, (rinF (o.f0.toList == iflagK.toList) (wordsOf o.f1) p).2)) else routF l p
theorem rinF_t (w : ByteArray) (ws : List ByteArray) (p : PL) : rinF true (w :: ws) p = if isFull w = true then rinF true ws { p with full := true } else (false, p) := rfl
theorem rinF_f (w : ByteArray) (ws : List ByteArray) (p : PL) : rinF false (w :: ws) p = if (convS p w).2 = true then rinF false ws (convS p w).1 else (false, (convS p w).1) := rfl
theorem bytes_ext {a b : ByteArray} (h : a.toList = b.toList) : a = b := by
 rw [ByteArray.toList_eq, ByteArray.toList_eq] at h
 obtain ⟨a⟩ := a
 obtain ⟨b⟩ := b
 exact congrArg ByteArray.mk (Array.toList_inj.1 h)
theorem Ev.step2 {α : Type} {g f : Nat → Option α} {r : α} (h : ∀ k, g (k + 2) = f k) (k : Ev f r) : Ev g r := by
 obtain ⟨K, hK⟩ := k
 refine ⟨K + 2, fun n hn => ?_⟩
 obtain ⟨m, rfl⟩ : ∃ m, n = m + 2 := ⟨n - 2, by omega⟩
 rw [h m]
 exact hK m (by omega)
theorem inI (ws : List ByteArray) : ∀ (p : PL) (ok : Bool), inF iflagS ws (p, ok) = ({ p with full := p.full || ws.any isFull }, ws.all isFull && ok) := by
 induction ws with
 | nil => intro p ok; simp [inF]
 | cons w ws ih =>
  intro p ok
  show inF iflagS ws ((iflagS p w).1, (iflagS p w).2 && ok) = _
  rw [ih]
  show ({ p with full := (p.full || isFull w) || ws.any isFull }, ws.all isFull && (isFull w && ok)) = _
  simp only [List.any_cons, List.all_cons, Bool.or_assoc]
  congr 1
  cases isFull w <;> cases ws.all isFull <;> cases ok <;> rfl
theorem setO_full (p : PL) (o : Nat) (b : Bool) : ({ p with full := b } : PL).setO o = { p.setO o with full := b } := by
 unfold PL.setO
 split <;> rfl
theorem setO_keeps (p : PL) (o : Nat) : (p.setO o).full = p.full := by
 unfold PL.setO
 split <;> rfl
theorem convS_full (p : PL) (w : ByteArray) (b : Bool) : convS { p with full := b } w = ({ (convS p w).1 with full := b }, (convS p w).2) := by
 unfold convS
 cases fieldO w with
 | none => rfl
 | some o => simp only [setO_full]
theorem convS_keeps (p : PL) (w : ByteArray) : (convS p w).1.full = p.full := by
 unfold convS
 cases fieldO w with
 | none => rfl
 | some o => exact setO_keeps p o
theorem inC_full (ws : List ByteArray) : ∀ (p : PL) (ok b : Bool), inF convS ws ({ p with full := b }, ok) = ({ (inF convS ws (p, ok)).1 with full := b }, (inF convS ws (p, ok)).2) := by
 induction ws with
 | nil => intro p ok b; rfl
 | cons w ws ih =>
  intro p ok b
  show inF convS ws ((convS { p with full := b } w).1, (convS { p with full := b } w).2 && ok) = _
  rw [convS_full]
  exact ih _ _ _
theorem inC_keeps (ws : List ByteArray) : ∀ (p : PL) (ok : Bool), (inF convS ws (p, ok)).1.full = p.full := by
 induction ws with
 | nil => intro p ok; rfl
 | cons w ws ih => intro p ok; exact (ih _ _).trans (convS_keeps p w)
theorem in_no (sem : PL → ByteArray → PL × Bool) (ws : List ByteArray) : ∀ (p : PL), (inF sem ws (p, false)).2 = false := by
 induction ws with
 | nil => intro p; rfl
 | cons w ws ih =>
  intro p
  show (inF sem ws ((sem p w).1, (sem p w).2 && false)).2 = false
  rw [Bool.and_false]
  exact ih _
theorem out_no (sem : PL → ByteArray → PL × Bool) (key : ByteArray) (l : List S68) : ∀ (s : PL × Bool), s.2 = false → (outFl sem key l s).2 = false := by
 induction l with
 | nil => intro s h; exact h
 | cons o l ih =>
  intro s h
  refine ih _ ?_
  dsimp only
  split
  ·obtain ⟨p, b⟩ := s
   simp only at h
   subst h
   exact in_no sem _ p
  ·exact h
theorem outC_full (l : List S68) : ∀ (p : PL) (ok b : Bool), outFl convS convK l ({ p with full := b }, ok) = ({ (outFl convS convK l (p, ok)).1 with full := b }, (outFl convS convK l (p, ok)).2) := by
 induction l with
 | nil => intro p ok b; rfl
 | cons o l ih =>
  intro p ok b
  show outFl convS convK l (if (o.f0.toList == convK.toList) = true then inF convS (wordsOf o.f1) ({ p with full := b }, ok) else ({ p with full := b }, ok)) = _
  by_cases h : (o.f0.toList == convK.toList) = true
  ·rw [if_pos h, inC_full, ih]
   show _ = ({ (outFl convS convK l (if (o.f0.toList == convK.toList) = true then inF convS (wordsOf o.f1) (p, ok) else (p, ok))).1 with full := b }, (outFl convS convK l (if (o.f0.toList == convK.toList) = true then inF convS (wordsOf o.f1) (p, ok) else (p, ok))).2)
   rw [if_pos h]
  ·rw [if_neg h, ih]
   show _ = ({ (outFl convS convK l (if (o.f0.toList == convK.toList) = true then inF convS (wordsOf o.f1) (p, ok) else (p, ok))).1 with full := b }, (outFl convS convK l (if (o.f0.toList == convK.toList) = true then inF convS (wordsOf o.f1) (p, ok) else (p, ok))).2)
   rw [if_neg h]
theorem outC_keeps (l : List S68) : ∀ (s : PL × Bool), (outFl convS convK l s).1.full = s.1.full := by
 induction l with
 | nil => intro s; rfl
 | cons o l ih =>
  intro s
  refine (ih _).trans ?_
  dsimp only
  split
  ·exact inC_keeps _ s.1 s.2
  ·rfl
theorem conv_iflag (k : ByteArray) (h : k.toList = convK.toList) : (k.toList == iflagK.toList) = false := by rw [h]; decide +kernel
theorem iflag_conv (k : ByteArray) (h : k.toList = iflagK.toList) : (k.toList == convK.toList) = false := by rw [h]; decide +kernel
theorem swap (ws : List ByteArray) (l : List S68) (p : PL) : inF iflagS ws (outFl convS convK l (p, true)) = (({ (outFl convS convK l (p, true)).1 with full := p.full || ws.any isFull } : PL), ws.all isFull && (outFl convS convK l (p, true)).2) := by
 obtain ⟨q, hq⟩ : ∃ q, q = outFl convS convK l (p, true) := ⟨_, rfl⟩
 have hk : q.1.full = p.full := by rw [hq]; exact outC_keeps l _
 rw [← hq]
 obtain ⟨q1, q2⟩ := q
 rw [inI]
 rw [show q1.full = p.full from hk]
theorem rin_conv (ws : List ByteArray) : ∀ p : PL, ((rinF false ws p).1 = true → inF convS ws (p, true) = ((rinF false ws p).2, true)) ∧ ((rinF false ws p).1 = false → (inF convS ws (p, true)).2 = false) := by
 induction ws with
 | nil => intro p; exact ⟨fun _ => rfl, fun h => by simp [rinF] at h⟩
 | cons w ws ih =>
  intro p
  have e : inF convS (w :: ws) (p, true) = inF convS ws ((convS p w).1, (convS p w).2 && true) := rfl
  rw [e, Bool.and_true]
  unfold rinF
  rw [if_neg (by simp)]
  cases h : (convS p w).2 with
  | true => rw [if_pos rfl]; exact ih _
  | false => rw [if_neg (by simp)]; exact ⟨fun h => by simp at h, fun _ => in_no _ _ _⟩
theorem rin_iflag (ws : List ByteArray) : ∀ p : PL, (rinF true ws p).1 = ws.all isFull ∧ ((rinF true ws p).1 = true → (rinF true ws p).2 = { p with full := p.full || ws.any isFull }) := by
 induction ws with
 | nil => intro p; exact ⟨rfl, fun _ => by simp [rinF]⟩
 | cons w ws ih =>
  intro p
  unfold rinF
  rw [if_pos rfl]
  cases h : isFull w with
  | true =>
   rw [if_pos rfl]
   obtain ⟨h1, h2⟩ := ih { p with full := true }
   refine ⟨by rw [h1, List.all_cons, h]; rfl, fun h3 => ?_⟩
   rw [h2 h3, List.any_cons, h]
   simp
  | false =>
   rw [if_neg (by simp)]
   exact ⟨by rw [List.all_cons, h]; rfl, fun h => by simp at h⟩
theorem rout_flags (l : List S68) : ∀ p : PL, ((routF l p).1 = true → flagsF l (p, true) = ((routF l p).2, true)) ∧ ((routF l p).1 = false → (flagsF l (p, true)).2 = false) := by
 induction l with
 | nil => intro p; exact ⟨fun _ => rfl, fun h => by simp [routF] at h⟩
 | cons o l ih =>
  intro p
  have eC : ∀ s, outFl convS convK (o :: l) s = outFl convS convK l (if (o.f0.toList == convK.toList) = true then inF convS (wordsOf o.f1) s else s) := fun _ => rfl
  have eI : ∀ s, outFl iflagS iflagK (o :: l) s = outFl iflagS iflagK l (if (o.f0.toList == iflagK.toList) = true then inF iflagS (wordsOf o.f1) s else s) := fun _ => rfl
  have eF : ∀ l s, flagsF l s = outFl iflagS iflagK l (outFl convS convK l s) := fun _ _ => rfl
  unfold routF
  by_cases hc : o.f0.toList = convK.toList
  ·rw [if_pos (.inl hc), conv_iflag _ hc]
   have e : flagsF (o :: l) (p, true) = flagsF l (inF convS (wordsOf o.f1) (p, true)) := by
    rw [eF, eI, eC, if_neg (show ¬ (o.f0.toList == iflagK.toList) = true from by rw [conv_iflag _ hc]; simp), if_pos (show (o.f0.toList == convK.toList) = true from beq_iff_eq.mpr hc), eF]
   rw [e]
   obtain ⟨h1, h2⟩ := rin_conv (wordsOf o.f1) p
   cases h : (rinF false (wordsOf o.f1) p).1 with
   | true => rw [if_pos rfl, h1 h]; exact ih _
   | false => rw [if_neg (by simp)]; exact ⟨fun h => by simp at h, fun _ => by rw [eF]; exact out_no _ _ _ _ (out_no _ _ _ _ (h2 h))⟩
  ·by_cases hi : o.f0.toList = iflagK.toList
   ·rw [if_pos (.inr hi), show (o.f0.toList == iflagK.toList) = true from beq_iff_eq.mpr hi]
    have e : flagsF (o :: l) (p, true) = outFl iflagS iflagK l (inF iflagS (wordsOf o.f1) (outFl convS convK l (p, true))) := by
     rw [eF, eI, eC, if_pos (show (o.f0.toList == iflagK.toList) = true from beq_iff_eq.mpr hi), if_neg (show ¬ (o.f0.toList == convK.toList) = true from by rw [iflag_conv _ hi]; simp)]
    rw [e, swap]
    obtain ⟨h1, h2⟩ := rin_iflag (wordsOf o.f1) p
    cases h : (rinF true (wordsOf o.f1) p).1 with
    | true =>
     rw [if_pos rfl, ← h1, h, h2 h]
     have e2 : (({ (outFl convS convK l (p, true)).1 with full := p.full || (wordsOf o.f1).any isFull } : PL), true && (outFl convS convK l (p, true)).2) = outFl convS convK l ({ p with full := p.full || (wordsOf o.f1).any isFull }, true) := by
      rw [Bool.true_and]
      exact (outC_full l p true _).symm
     rw [e2, ← eF]
     exact ih _
    | false =>
     rw [if_neg (by simp), ← h1, h]
     exact ⟨fun h => by simp at h, fun _ => out_no _ _ _ _ rfl⟩
   ·rw [if_neg (by rintro (h | h); exact hc h; exact hi h)]
    have e : flagsF (o :: l) (p, true) = flagsF l (p, true) := by
     rw [eF, eI, eC, if_neg (show ¬ (o.f0.toList == iflagK.toList) = true from by simpa using hi), if_neg (show ¬ (o.f0.toList == convK.toList) = true from by simpa using hc), eF]
    rw [e]
    exact ih p
def pk (b : Bool) (p : PL) : Bool × Bool × Bool × Bool × Bool × Bool × Bool × Bool × Bool × Int × ByteArray × ByteArray × Int × Int × Int × Int × Int × Bool × Bool × Bool × Bool × Bool × Bool × Bool × Bool × Bool × Bool := (b, p.swab, p.block, p.unblock, p.lcase, p.ucase, p.ascii, p.ebcdic, p.ibm, p.cbs, p.src, p.dst, p.ibs, p.obs, p.skip, p.seek, p.count, p.all, p.direct, p.full, p.sync, p.noerror, p.notrunc, p.sparse, p.fsync, p.excl, p.nocreat)
def wL0 (k : Nat) (l : List S68) (i : Int) (p : PL) := salvorref22_words.l0 k l i p.swab p.block p.unblock p.lcase p.ucase p.ascii p.ebcdic p.ibm p.cbs p.src p.dst p.ibs p.obs p.skip p.seek p.count p.all p.direct p.full p.sync p.noerror p.notrunc p.sparse p.fsync p.excl p.nocreat
def wL1 (k : Nat) (l : List S68) (i : Int) (ws : List ByteArray) (j : Int) (p : PL) := salvorref22_words.l1 k l i ws j p.swab p.block p.unblock p.lcase p.ucase p.ascii p.ebcdic p.ibm p.cbs p.src p.dst p.ibs p.obs p.skip p.seek p.count p.all p.direct p.full p.sync p.noerror p.notrunc p.sparse p.fsync p.excl p.nocreat
theorem idx_from (word : ByteArray) : ∀ (zs : List ByteArray) (i n : Nat), Lib.idxFromS zs word i = ((i + n : Nat) : Int) → n < zs.length → zs.getD n ByteArray.empty = word := by
 intro zs
 induction zs with
 | nil => intro i n h hn; simp at hn
 | cons z zs ih =>
  intro i n h hn
  unfold Lib.idxFromS at h
  split at h
  case isTrue hz =>
   have : n = 0 := by omega
   subst this
   simpa using hz
  case isFalse hz =>
   cases n with
   | zero =>
    exfalso
    have hg : ∀ (zs : List ByteArray) (i : Nat), Lib.idxFromS zs word i < 0 ∨ (i : Int) ≤ Lib.idxFromS zs word i := by
     intro zs
     induction zs with
     | nil => intro i; left; simp [Lib.idxFromS]
     | cons z zs ih =>
      intro i
      unfold Lib.idxFromS
      split
      ·right; omega
      ·rcases ih (i + 1) with h | h
       ·exact .inl h
       ·right; omega
    rcases hg zs (i + 1) with h2 | h2 <;> omega
   | succ n =>
    have := ih (i + 1) n (by rw [h]; congr 1; omega) (by simpa using hn)
    simpa using this
theorem idx_none (word : ByteArray) : ∀ (zs : List ByteArray) (i : Nat), Lib.idxFromS zs word i < 0 → ∀ z ∈ zs, z ≠ word := by
 intro zs
 induction zs with
 | nil => intro i h z hz; simp at hz
 | cons z zs ih =>
  intro i h y hy
  unfold Lib.idxFromS at h
  split at h
  case isTrue hz => omega
  case isFalse hz =>
   rcases List.mem_cons.1 hy with rfl | hy
   ·simpa using hz
   ·exact ih _ h y hy
theorem word_eq (p : PL) (w : ByteArray) : salvorref22_word.f p.swab p.block p.unblock p.lcase p.ucase p.ascii p.ebcdic p.ibm p.cbs p.src p.dst p.ibs p.obs p.skip p.seek p.count p.all p.direct p.full p.sync p.noerror p.notrunc p.sparse p.fsync p.excl p.nocreat w = some (pk (convS p w).2 (convS p w).1) := by
 unfold convS fieldO
 rcases idx_cases w with hx | ⟨n, hn, hx⟩
 ·rw [if_pos hx]
  have hne := idx_none w convW 0 hx
  unfold salvorref22_word.f
  rw [if_neg (fun h => hne (convW[0]'(by decide)) (List.getElem_mem _) (bytes_ext (show (convW[0]'(by decide)).toList = w.toList from by rw [h]; decide +kernel)))]
  rw [if_neg (fun h => hne (convW[1]'(by decide)) (List.getElem_mem _) (bytes_ext (show (convW[1]'(by decide)).toList = w.toList from by rw [h]; decide +kernel)))]
  rw [if_neg (fun h => hne (convW[2]'(by decide)) (List.getElem_mem _) (bytes_ext (show (convW[2]'(by decide)).toList = w.toList from by rw [h]; decide +kernel)))]
  rw [if_neg (fun h => hne (convW[3]'(by decide)) (List.getElem_mem _) (bytes_ext (show (convW[3]'(by decide)).toList = w.toList from by rw [h]; decide +kernel)))]
  rw [if_neg (fun h => hne (convW[4]'(by decide)) (List.getElem_mem _) (bytes_ext (show (convW[4]'(by decide)).toList = w.toList from by rw [h]; decide +kernel)))]
  rw [if_neg (fun h => hne (convW[5]'(by decide)) (List.getElem_mem _) (bytes_ext (show (convW[5]'(by decide)).toList = w.toList from by rw [h]; decide +kernel)))]
  rw [if_neg (fun h => hne (convW[6]'(by decide)) (List.getElem_mem _) (bytes_ext (show (convW[6]'(by decide)).toList = w.toList from by rw [h]; decide +kernel)))]
  rw [if_neg (fun h => hne (convW[7]'(by decide)) (List.getElem_mem _) (bytes_ext (show (convW[7]'(by decide)).toList = w.toList from by rw [h]; decide +kernel)))]
  rw [if_neg (fun h => hne (convW[8]'(by decide)) (List.getElem_mem _) (bytes_ext (show (convW[8]'(by decide)).toList = w.toList from by rw [h]; decide +kernel)))]
  rw [if_neg (fun h => hne (convW[9]'(by decide)) (List.getElem_mem _) (bytes_ext (show (convW[9]'(by decide)).toList = w.toList from by rw [h]; decide +kernel)))]
  rw [if_neg (fun h => hne (convW[10]'(by decide)) (List.getElem_mem _) (bytes_ext (show (convW[10]'(by decide)).toList = w.toList from by rw [h]; decide +kernel)))]
  rw [if_neg (fun h => hne (convW[11]'(by decide)) (List.getElem_mem _) (bytes_ext (show (convW[11]'(by decide)).toList = w.toList from by rw [h]; decide +kernel)))]
  rw [if_neg (fun h => hne (convW[12]'(by decide)) (List.getElem_mem _) (bytes_ext (show (convW[12]'(by decide)).toList = w.toList from by rw [h]; decide +kernel)))]
  rw [if_neg (fun h => hne (convW[13]'(by decide)) (List.getElem_mem _) (bytes_ext (show (convW[13]'(by decide)).toList = w.toList from by rw [h]; decide +kernel)))]
  rw [if_neg (fun h => hne (convW[14]'(by decide)) (List.getElem_mem _) (bytes_ext (show (convW[14]'(by decide)).toList = w.toList from by rw [h]; decide +kernel)))]
  rfl
 ·rw [if_neg (by omega), hx, Int.toNat_natCast]
  have hw := idx_from w convW 0 n (by rw [Nat.zero_add]; exact hx) hn
  have hc : n = 0 ∨ n = 1 ∨ n = 2 ∨ n = 3 ∨ n = 4 ∨ n = 5 ∨ n = 6 ∨ n = 7 ∨ n = 8 ∨ n = 9 ∨ n = 10 ∨ n = 11 ∨ n = 12 ∨ n = 13 ∨ n = 14 := by omega
  rcases hc with rfl | rfl | rfl | rfl | rfl | rfl | rfl | rfl | rfl | rfl | rfl | rfl | rfl | rfl | rfl <;> (subst hw; show _ = _; kernel_rfl)
theorem wL0_end (k : Nat) (l : List S68) (i : Nat) (p : PL) (h : ¬ i < l.length) : wL0 (k + 1) l i p = some (pk true p) := by
 unfold wL0
 rw [salvorref22_words.l0, if_neg (by omega)]
 rfl
theorem wL0_other (k : Nat) (l : List S68) (i : Nat) (p : PL) (h : i < l.length) (hc : ¬ l[i].f0.toList = convK.toList) (hi : ¬ l[i].f0.toList = iflagK.toList) (hl : l.length < 10000) : wL0 (k + 2) l i p = wL0 k l ((i + 1 : Nat) : Int) p := by
 rw [convK_l] at hc
 rw [iflagK_l] at hi
 have hrd := opt_get l i h
 have e3 : wrap64 ((i : Int) + 1) = ((i + 1 : Nat) : Int) := by unfold wrap64; omega
 unfold wL0
 rw [salvorref22_words.l0, if_pos (by omega), if_pos (by omega), hrd, if_neg hc, salvorref22_words.j1, if_pos (by simpa using hi), e3]
theorem wL0_word (k : Nat) (l : List S68) (i : Nat) (p : PL) (h : i < l.length) (hci : l[i].f0.toList = convK.toList ∨ l[i].f0.toList = iflagK.toList) : wL0 (k + 2) l i p = (salvorref6_Words.f k l[i].f1 44).bind fun ws => wL1 k l i ws ((0 : Nat) : Int) p := by
 rw [convK_l, iflagK_l] at hci
 have hrd := opt_get l i h
 unfold wL0
 rw [salvorref22_words.l0, if_pos (by omega), if_pos (by omega), hrd]
 by_cases hc : l[i].f0.toList = [99, 111, 110, 118]
 ·rw [if_pos hc, salvorref22_words.j1, if_neg (by simp), if_pos (by omega), if_pos (by omega), hrd]
  rfl
 ·have hi : l[i].f0.toList = [105, 102, 108, 97, 103] := hci.resolve_left hc
  rw [if_neg hc, salvorref22_words.j1, if_neg (by simpa using hi), if_pos (by omega), if_pos (by omega), hrd]
  rfl
theorem wL1_end (k : Nat) (l : List S68) (i : Nat) (ws : List ByteArray) (j : Nat) (p : PL) (h : ¬ j < ws.length) (hl : i < 10000) : wL1 (k + 1) l i ws j p = wL0 k l ((i + 1 : Nat) : Int) p := by
 have e3 : wrap64 ((i : Int) + 1) = ((i + 1 : Nat) : Int) := by unfold wrap64; omega
 unfold wL1 wL0
 rw [salvorref22_words.l1, if_neg (by omega), e3]
theorem wL1_full (k : Nat) (l : List S68) (i : Nat) (ws : List ByteArray) (j : Nat) (p : PL) (hi : i < l.length) (hj : j < ws.length) (hk : l[i].f0.toList = iflagK.toList) (hf : isFull ws[j] = true) (hl : ws.length < 10000) : wL1 (k + 2) l i ws j p = wL1 k l i ws ((j + 1 : Nat) : Int) { p with full := true } := by
 rw [iflagK_l] at hk
 have hrd := opt_get l i hi
 have hrw := rdOf_get ws j hj
 have e3 : wrap64 ((j : Int) + 1) = ((j + 1 : Nat) : Int) := by unfold wrap64; omega
 unfold wL1
 rw [salvorref22_words.l1, if_pos (by omega), if_pos (by omega), if_pos (by omega), hrd, if_pos hk, if_pos (by omega), hrw, salvorref22_words.j3, if_pos (show (ws[j].toList == ([102, 117, 108, 108, 98, 108, 111, 99, 107] : List UInt8)) = true from hf), e3]
theorem wL1_notfull (k : Nat) (l : List S68) (i : Nat) (ws : List ByteArray) (j : Nat) (p : PL) (hi : i < l.length) (hj : j < ws.length) (hk : l[i].f0.toList = iflagK.toList) (hf : isFull ws[j] = false) : wL1 (k + 2) l i ws j p = some (pk false p) := by
 rw [iflagK_l] at hk
 have hrd := opt_get l i hi
 have hrw := rdOf_get ws j hj
 unfold wL1
 rw [salvorref22_words.l1, if_pos (by omega), if_pos (by omega), if_pos (by omega), hrd, if_pos hk, if_pos (by omega), hrw, salvorref22_words.j3, if_neg (show ¬ (ws[j].toList == ([102, 117, 108, 108, 98, 108, 111, 99, 107] : List UInt8)) = true from by rw [show (ws[j].toList == ([102, 117, 108, 108, 98, 108, 111, 99, 107] : List UInt8)) = false from hf]; simp), if_pos (by omega), if_pos (by omega), hrd, if_pos hk]
 rfl
theorem wL1_conv (k : Nat) (l : List S68) (i : Nat) (ws : List ByteArray) (j : Nat) (p : PL) (hi : i < l.length) (hj : j < ws.length) (hk : ¬ l[i].f0.toList = iflagK.toList) (hl : ws.length < 10000) : wL1 (k + 2) l i ws j p = if (convS p ws[j]).2 = true then wL1 k l i ws ((j + 1 : Nat) : Int) (convS p ws[j]).1 else some (pk false (convS p ws[j]).1) := by
 rw [iflagK_l] at hk
 have hrd := opt_get l i hi
 have hrw := rdOf_get ws j hj
 have e3 : wrap64 ((j : Int) + 1) = ((j + 1 : Nat) : Int) := by unfold wrap64; omega
 unfold wL1
 rw [salvorref22_words.l1, if_pos (by omega), if_pos (by omega), if_pos (by omega), hrd, if_neg hk, salvorref22_words.j3, if_neg (by simp), if_pos (by omega), if_pos (by omega), hrd, if_neg hk, if_pos (by omega), if_pos (by omega), hrw, word_eq p ws[j], e3]
 rfl
theorem rin_ev (l : List S68) (i : Nat) (hi : i < l.length) (hl : l.length < 10000) (hk : l[i].f0.toList = convK.toList ∨ l[i].f0.toList = iflagK.toList) (ws : List ByteArray) (hw : ws.length < 10000) (V : Bool × PL)
  (hno : ∀ p : PL, Ev (fun k => wL0 k l ((i + 1 : Nat) : Int) p) (pk (routF (l.drop (i + 1)) p).1 (routF (l.drop (i + 1)) p).2)) : ∀ d j : Nat, ws.length - j = d → j ≤ ws.length → ∀ p : PL,
  Ev (fun k => wL1 k l i ws (j : Int) p) (if (rinF (l[i].f0.toList == iflagK.toList) (ws.drop j) p).1 = true then pk (routF (l.drop (i + 1)) (rinF (l[i].f0.toList == iflagK.toList) (ws.drop j) p).2).1 (routF (l.drop (i + 1)) (rinF (l[i].f0.toList == iflagK.toList) (ws.drop j) p).2).2 else pk false (rinF (l[i].f0.toList == iflagK.toList) (ws.drop j) p).2) := by
 intro d
 induction d with
 | zero =>
  intro j hd hj p
  rw [List.drop_eq_nil_of_le (by omega)]
  rw [show rinF (l[i].f0.toList == iflagK.toList) [] p = (true, p) from rfl, if_pos rfl]
  exact Ev.step (fun k => wL1_end k l i ws j p (by omega) (by omega)) (hno p)
 | succ d ih =>
  intro j hd hj p
  have hlt : j < ws.length := by omega
  rw [List.drop_eq_getElem_cons hlt]
  by_cases hif : l[i].f0.toList = iflagK.toList
  ·have hb : (l[i].f0.toList == iflagK.toList) = true := beq_iff_eq.mpr hif
   rw [hb] at ih ⊢
   rw [rinF_t]
   cases hf : isFull ws[j] with
   | true =>
    simp only [if_true]
    exact Ev.step2 (fun k => wL1_full k l i ws j p hi hlt hif hf hw) (ih (j + 1) (by omega) (by omega) _)
   | false =>
    simp only [Bool.false_eq_true, if_false]
    exact Ev.step2 (f := fun _ => some (pk false p)) (fun k => wL1_notfull k l i ws j p hi hlt hif hf) (Ev.now _)
  ·have hb : (l[i].f0.toList == iflagK.toList) = false := beq_eq_false_iff_ne.mpr hif
   rw [hb] at ih ⊢
   rw [rinF_f]
   cases hf : (convS p ws[j]).2 with
   | true =>
    simp only [if_true]
    exact Ev.step2 (fun k => by rw [wL1_conv k l i ws j p hi hlt hif hw, if_pos hf]) (ih (j + 1) (by omega) (by omega) _)
   | false =>
    simp only [Bool.false_eq_true, if_false]
    exact Ev.step2 (f := fun _ => some (pk false (convS p ws[j]).1)) (fun k => by rw [wL1_conv k l i ws j p hi hlt hif hw, if_neg (by rw [hf]; simp)]) (Ev.now _)
theorem rout_ev (l : List S68) (hl : l.length < 10000) (hs : ∀ o ∈ l, o.f1.size ≤ 1000) : ∀ d i : Nat, l.length - i = d → i ≤ l.length → ∀ p : PL, Ev (fun k => wL0 k l (i : Int) p) (pk (routF (l.drop i) p).1 (routF (l.drop i) p).2) := by
 intro d
 induction d with
 | zero =>
  intro i hd hi p
  rw [List.drop_eq_nil_of_le (by omega)]
  exact Ev.step (f := fun _ => some (pk true p)) (fun k => wL0_end k l i p (by omega)) (Ev.now _)
 | succ d ih =>
  intro i hd hi p
  have hlt : i < l.length := by omega
  rw [List.drop_eq_getElem_cons hlt]
  unfold routF
  by_cases hc : l[i].f0.toList = convK.toList ∨ l[i].f0.toList = iflagK.toList
  ·rw [if_pos hc]
   have hsz := hs l[i] (List.getElem_mem hlt)
   have hwl := words_len l[i].f1
   have hcn := Lib.countB_le ⟨#[44]⟩ (Nat.le_refl 1) l[i].f1.size l[i].f1 (Nat.le_refl _)
   have hwr := words_ref 44 _ l[i].f1 hsz rfl [] (by simp; omega)
   rw [List.nil_append] at hwr
   have hW : Ev (fun k => salvorref6_Words.f k l[i].f1 44) (wordsOf l[i].f1) := hwr
   refine Ev.step2 (fun k => wL0_word k l i p hlt hc) (Ev.bind hW ?_)
   have h := rin_ev l i hlt hl hc (wordsOf l[i].f1) (by omega) (true, p) (fun p => ih (i + 1) (by omega) (by omega) p) _ 0 rfl (by omega) p
   rw [List.drop_zero] at h
   split
   case isTrue h1 => rw [if_pos h1] at h; exact h
   case isFalse h1 => rw [if_neg h1] at h; exact h
  ·rw [if_neg hc]
   exact Ev.step2 (fun k => wL0_other k l i p hlt (fun h => hc (.inl h)) (fun h => hc (.inr h)) hl) (ih (i + 1) (by omega) (by omega) p)
theorem words_ev (l : List S68) (hl : l.length < 10000) (hs : ∀ o ∈ l, o.f1.size ≤ 1000) (p : PL) : Ev (fun k => wordsP k p l) (routF l p) := by
 obtain ⟨K, hK⟩ := rout_ev l hl hs l.length 0 (by omega) (by omega) p
 refine ⟨K, fun k hk => ?_⟩
 have h : salvorref22_words.f k p.swab p.block p.unblock p.lcase p.ucase p.ascii p.ebcdic p.ibm p.cbs p.src p.dst p.ibs p.obs p.skip p.seek p.count p.all p.direct p.full p.sync p.noerror p.notrunc p.sparse p.fsync p.excl p.nocreat l = some (pk (routF l p).1 (routF l p).2) := hK k hk
 unfold wordsP
 show Option.map _ (salvorref22_words.f k p.swab p.block p.unblock p.lcase p.ucase p.ascii p.ebcdic p.ibm p.cbs p.src p.dst p.ibs p.obs p.skip p.seek p.count p.all p.direct p.full p.sync p.noerror p.notrunc p.sparse p.fsync p.excl p.nocreat l) = some _
 rw [h]
 rfl
end Go.Proofs.YtbmhfnncagncmaaGreatDoor.Pure
end
section
namespace Go.Proofs.YtbmhfnncagncmaaGreatDoor.Pure
open Go.RowKit Go.Proofs.YtbmhfnncagncmaaGreatDoorW.PrintWords Go.Proofs.YtbmhfnncagncmaaGreatDoorW.PrintLast Go.Proofs.YtbmhfnncagncmaaGreatDoor.P Go.Proofs.YtbmhfnncagncmaaGreatDoor.Num
set_option linter.unusedVariables false
set_option linter.unusedSimpArgs false
def okP (c : Int) : Prop := 97 ≤ c ∧ c ≤ 122 ∨ 48 ≤ c ∧ c ≤ 57 ∨ c = 46 ∨ c = 95 ∨ c = 45
instance (c : Int) : Decidable (okP c) := by unfold okP; infer_instance
theorem may_ok (c : Int) : image_may.f c = some (decide (okP c)) := by
 by_cases h : okP c
 ·rw [decide_eq_true h]
  unfold okP at h
  unfold image_may.f
  (repeat' split) <;> first | rfl | (exfalso; omega) | (congr 1; simp only [beq_iff_eq]; omega)
 ·rw [decide_eq_false h]
  unfold okP at h
  unfold image_may.f
  (repeat' split) <;> first | rfl | (exfalso; omega) | (congr 1; simp only [beq_eq_false_iff_ne]; omega)
def tailOk (s : ByteArray) : Nat → Nat → Bool
 | 0, _ => true
 | n + 1, i => decide (okP (bt s i)) && tailOk s n (i + 1)
def mayS (s : ByteArray) : Bool := decide (1 ≤ s.size) && decide (s.size ≤ 20) && !(bt s 0 == 45) && tailOk s s.size 0
theorem img_at (s : ByteArray) (hs : s.size < 4611686018427387904) : ∀ n i : Nat, s.size - i = n → i ≤ s.size → Ev (fun k => image_MayName.l0 k s s.size i) (tailOk s n i)
 | 0, i, hn, hi => Ev.step (f := fun _ => some true) (fun k => by rw [image_MayName.l0, if_neg (by omega)]) (Ev.now _)
 | n + 1, i, hn, hi => by
  have e3 : wrap64 ((i : Int) + 1) = ((i + 1 : Nat) : Int) := by unfold wrap64; omega
  have e : ∀ k, image_MayName.l0 (k + 1) s s.size i = if decide (okP (bt s i)) = true then image_MayName.l0 k s s.size ((i + 1 : Nat) : Int) else some false := fun k => by
   rw [image_MayName.l0, if_pos (by omega), if_pos (by omega), if_pos (by omega), may_ok, e3]; rfl
  unfold tailOk
  cases h : decide (okP (bt s i)) with
  | true => exact Ev.step (fun k => by rw [e k, h, if_pos rfl]) (by rw [Bool.true_and]; exact img_at s hs n (i + 1) (by omega) (by omega))
  | false => exact Ev.step (f := fun _ => some false) (fun k => by rw [e k, h, if_neg (by simp)]) (by rw [Bool.false_and]; exact Ev.now _)
theorem img_ev (s : ByteArray) (hs : s.size < 4611686018427387904) : Ev (fun k => image_MayName.f k s) (mayS s) := by
 have J : ∀ b : Bool, ∀ r, (b = true → r = false) → (b = false → Ev (fun k => image_MayName.l0 k s s.size ((0 : Nat) : Int)) r) → Ev (fun k => image_MayName.j0 k s b) r := fun b r h1 h2 => by
  cases b with
  | true => rw [h1 rfl]; exact Ev.step (f := fun _ => some false) (fun k => by rw [image_MayName.j0, if_pos rfl]) (Ev.now _)
  | false => exact Ev.step (f := fun k => image_MayName.l0 k s s.size ((0 : Nat) : Int)) (fun k => by rw [image_MayName.j0, if_neg (by simp)]; rfl) (h2 rfl)
 unfold image_MayName.f mayS
 by_cases h0 : s.size = 0
 ·simp only [if_pos ((toList_nil s).2 h0)]
  refine J true _ (fun _ => ?_) (fun h => by cases h)
  rw [decide_eq_false (by omega : ¬ 1 ≤ s.size)]; rfl
 ·simp only [if_neg (fun e => h0 ((toList_nil s).1 e))]
  rw [decide_eq_true (by omega : 1 ≤ s.size)]
  by_cases h20 : (s.size : Int) > 20
  ·simp only [if_pos h20]
   refine J true _ (fun _ => ?_) (fun h => by cases h)
   rw [decide_eq_false (by omega : ¬ s.size ≤ 20)]; rfl
  ·simp only [if_neg h20, if_pos (show 0 < (s.size : Int) by omega)]
   rw [decide_eq_true (by omega : s.size ≤ 20)]
   refine J _ _ (fun h => ?_) (fun h => ?_)
   ·rw [h]; rfl
   ·rw [h]
    exact img_at s hs s.size 0 (by omega) (by omega)
theorem ref_step (s : ByteArray) (hs : s.size < 4611686018427387904) (i : Nat) (hi : i < s.size) (k : Nat) : salvorref11_MayName.l0 (k + 1) s i = if okP (bt s i) ∧ ¬ (bt s i = 45 ∧ i = 0) then salvorref11_MayName.l0 k s ((i + 1 : Nat) : Int) else some false := by
 have e3 : wrap64 ((i : Int) + 1) = ((i + 1 : Nat) : Int) := by unfold wrap64; omega
 rw [salvorref11_MayName.l0, if_pos (by omega), if_pos (by omega), e3]
 generalize bt s i = c
 unfold okP
 by_cases hg : (97 ≤ c ∧ c ≤ 122 ∨ 48 ≤ c ∧ c ≤ 57 ∨ c = 46 ∨ c = 95 ∨ c = 45) ∧ ¬ (c = 45 ∧ i = 0)
 ·rw [if_pos hg]
  (repeat' split) <;> first | rfl | (exfalso; omega)
 ·rw [if_neg hg]
  (repeat' split) <;> first | rfl | (exfalso; omega)
theorem ref_end (s : ByteArray) (i : Nat) (hi : ¬ i < s.size) (k : Nat) : salvorref11_MayName.l0 (k + 1) s i = some (decide (1 ≤ s.size) && decide (s.size ≤ 20)) := by
 rw [salvorref11_MayName.l0, if_neg (by omega)]
 by_cases h : (s.size : Int) ≥ 1
 ·rw [if_pos h, decide_eq_true (by omega : 1 ≤ s.size), Bool.true_and]
  congr 1
  exact decide_eq_decide.2 (by omega)
 ·rw [if_neg h, decide_eq_false (by omega : ¬ 1 ≤ s.size), Bool.false_and]
theorem ref_at (s : ByteArray) (hs : s.size < 4611686018427387904) : ∀ n i : Nat, s.size - i = n → i ≤ s.size → 1 ≤ i → Ev (fun k => salvorref11_MayName.l0 k s i) (tailOk s n i && (decide (1 ≤ s.size) && decide (s.size ≤ 20)))
 | 0, i, hn, hi, h1 => Ev.step (f := fun _ => some (decide (1 ≤ s.size) && decide (s.size ≤ 20))) (fun k => ref_end s i (by omega) k) (by rw [show tailOk s 0 i = true from rfl, Bool.true_and]; exact Ev.now _)
 | n + 1, i, hn, hi, h1 => by
  unfold tailOk
  by_cases h : okP (bt s i)
  ·rw [decide_eq_true h, Bool.true_and]
   exact Ev.step (fun k => by rw [ref_step s hs i (by omega) k, if_pos ⟨h, fun x => by omega⟩]) (ref_at s hs n (i + 1) (by omega) (by omega) (by omega))
  ·rw [decide_eq_false h, Bool.false_and, Bool.false_and]
   exact Ev.step (f := fun _ => some false) (fun k => by rw [ref_step s hs i (by omega) k, if_neg (fun x => h x.1)]) (Ev.now _)
theorem ref_ev (s : ByteArray) (hs : s.size < 4611686018427387904) : Ev (fun k => salvorref11_MayName.f k s) (mayS s) := by
 show Ev (fun k => salvorref11_MayName.l0 k s ((0 : Nat) : Int)) _
 unfold mayS
 cases hz : s.size with
 | zero =>
  refine Ev.step (f := fun _ => some (decide (1 ≤ s.size) && decide (s.size ≤ 20))) (fun k => ref_end s 0 (by omega) k) ?_
  rw [hz]
  exact Ev.now _
 | succ n =>
  rw [show tailOk s (n + 1) 0 = (decide (okP (bt s ((0 : Nat) : Int))) && tailOk s n 1) from rfl]
  by_cases h45 : bt s ((0 : Nat) : Int) = 45
  ·rw [show (bt s 0 == 45) = true from beq_iff_eq.mpr h45]
   refine Ev.step (f := fun _ => some false) (fun k => by rw [ref_step s hs 0 (by omega) k, if_neg (fun x => x.2 ⟨h45, rfl⟩)]) ?_
   simp only [Bool.not_true, Bool.and_false, Bool.false_and]
   exact Ev.now _
  ·rw [show (bt s 0 == 45) = false from beq_eq_false_iff_ne.mpr h45]
   by_cases h : okP (bt s ((0 : Nat) : Int))
   ·rw [decide_eq_true h]
    have hr := ref_at s hs n 1 (by omega) (by omega) (by omega)
    rw [hz] at hr
    refine Ev.step (fun k => by rw [ref_step s hs 0 (by omega) k, if_pos ⟨h, fun x => h45 x.1⟩]) ?_
    rw [Bool.not_false, Bool.and_true, Bool.true_and, Bool.and_comm]
    exact hr
   ·rw [decide_eq_false h]
    refine Ev.step (f := fun _ => some false) (fun k => by rw [ref_step s hs 0 (by omega) k, if_neg (fun x => h x.1)]) ?_
    simp only [Bool.false_and, Bool.and_false]
    exact Ev.now _
set_option maxRecDepth 10000 in
theorem convs_eq (b0 b1 b2 b3 b4 b5 b6 b7 : Bool) (c : Int) : ∃ r, conv_May.f 20 b0 b1 b2 b3 b4 b5 b6 b7 c = some r ∧ salvorref6_MayConvs.f 20 b0 b1 b2 b3 b4 b5 b6 b7 c = some r := by
 have h : conv_May.f 20 b0 b1 b2 b3 b4 b5 b6 b7 c = salvorref6_MayConvs.f 20 b0 b1 b2 b3 b4 b5 b6 b7 c := by
  cases b0 <;> cases b1 <;> cases b2 <;> cases b3 <;> cases b4 <;> cases b5 <;> cases b6 <;> cases b7 <;> (show _ = _; kernel_rfl)
 have h3 : conv_May.f 20 b0 b1 b2 b3 b4 b5 b6 b7 c = if ((b3 && b4) || (b5 && b6) || (b5 && b7) || (b6 && b7) || ((b1 || b6 || b7) && (b2 || b5))) = true then some false else if c ≥ (if (b1 || b6 || b7 || b2 || b5) = true then (1 : Int) else 0) then some (decide (c ≤ 4096)) else some false := by
  cases b0 <;> cases b1 <;> cases b2 <;> cases b3 <;> cases b4 <;> cases b5 <;> cases b6 <;> cases b7 <;> (show _ = _; kernel_rfl)
 have h2 : (conv_May.f 20 b0 b1 b2 b3 b4 b5 b6 b7 c).isSome = true := by
  rw [h3]
  split
  ·rfl
  ·generalize (if (b1 || b6 || b7 || b2 || b5) = true then (1 : Int) else 0) = z
   by_cases h : c ≥ z
   ·rw [if_pos h]; rfl
   ·rw [if_neg h]; rfl
 obtain ⟨r, hr⟩ := Option.isSome_iff_exists.1 h2
 exact ⟨r, hr, h ▸ hr⟩
theorem convs_ev (b0 b1 b2 b3 b4 b5 b6 b7 : Bool) (c : Int) : ∃ r, Ev (fun k => conv_May.f k b0 b1 b2 b3 b4 b5 b6 b7 c) r ∧ Ev (fun k => salvorref6_MayConvs.f k b0 b1 b2 b3 b4 b5 b6 b7 c) r := by
 obtain ⟨r, h1, h2⟩ := convs_eq b0 b1 b2 b3 b4 b5 b6 b7 c
 exact ⟨r, Ev.of (conv_May.mono _ _ _ _ _ _ _ _ _) h1, Ev.of (salvorref6_MayConvs.mono _ _ _ _ _ _ _ _ _) h2⟩
end Go.Proofs.YtbmhfnncagncmaaGreatDoor.Pure
end
section
namespace Go.Proofs.YtbmhfnncagncmaaGreatDoor.Pure
open Go.RowKit Go.Proofs.YtbmhfnncagncmaaGreatDoorW.PrintWords Go.Proofs.YtbmhfnncagncmaaGreatDoorW.PrintLast Go.Proofs.YtbmhfnncagncmaaGreatDoor.P Go.Proofs.YtbmhfnncagncmaaGreatDoor.Num
set_option linter.unusedVariables false
set_option linter.unusedSimpArgs false
def Short (o : List S68) : Prop := o.length ≤ 60 ∧ ∀ x ∈ o, x.f1.size ≤ 1000
def FD (o : List S68) (key : ByteArray) : ByteArray × Bool := arg_Find.g o key o.length
theorem fd_size (o : List S68) (h : ∀ x ∈ o, x.f1.size ≤ 1000) (key : ByteArray) : (FD o key).1.size ≤ 1000 := by
 have : ∀ n : Nat, n ≤ o.length → (arg_Find.g o key n).1.size ≤ 1000 := by
  intro n
  induction n with
  | zero => intro _; exact Nat.zero_le _
  | succ n ih =>
   intro hn
   unfold arg_Find.g
   split
   ·rw [opt_get o n (by omega)]
    exact h _ (List.getElem_mem _)
   ·exact ih (by omega)
 exact this _ (Nat.le_refl _)
def nv (o : List S68) (key : ByteArray) : Option Nat := getL (FD o key).1.data.toList
def gN (o : List S68) (key : ByteArray) (wo : Int) : Int × Bool := if (FD o key).2 = true then val (nv o key) else (wo, true)
def gR (o : List S68) (key : ByteArray) (lo hi wo : Int) : Int × Bool := if (FD o key).2 = true then ((val (nv o key)).1, (val (nv o key)).2 && (decide (lo ≤ (val (nv o key)).1) && decide ((val (nv o key)).1 ≤ hi))) else (wo, true)
theorem getL_le {l : List UInt8} {u : Nat} (h : getL l = some u) : u ≤ MX := by
 unfold getL at h
 split at h
 ·exact mulL_le h
 ·cases h
theorem nv_le {o : List S68} {key : ByteArray} {u : Nat} (h : nv o key = some u) : u ≤ MX := getL_le h
theorem numT_ev (o : List S68) (hs : Short o) (key : ByteArray) (wo : Int) : Ev (fun k => numT k o key wo) (gN o key wo) := by
 have hz := fd_size o hs.2 key
 unfold numT gN
 show Ev (fun k => if (FD o key).2 = true then num_Get.f k (FD o key).1 else some (wo, true)) _
 split
 ·exact PureN.get_ev _ (by omega)
 ·exact Ev.now _
theorem rnum_ev (o : List S68) (hs : Short o) (key : ByteArray) (lo hi wo : Int) : Ev (fun k => salvorref22_num.f k o key lo hi wo) (gR o key lo hi wo) := by
 have hz := fd_size o hs.2 key
 have hl := hs.1
 unfold salvorref22_num.f gR
 refine Ev.bind (find_ev o key (by omega)) ?_
 show Ev (fun k => if (FD o key).2 = true then (salvorref1_Get.f k (FD o key).1).bind _ else some (wo, true)) _
 split
 ·refine Ev.bind (PureN.refGet_ev _ (by omega)) ?_
  show Ev (fun k => if (val (nv o key)).2 = true then (if (val (nv o key)).1 ≥ lo then some ((val (nv o key)).1, decide ((val (nv o key)).1 ≤ hi)) else some ((val (nv o key)).1, false)) else some ((val (nv o key)).1, false)) _
  cases h1 : (val (nv o key)).2 with
  | false => simp only [Bool.false_and]; exact Ev.now _
  | true =>
   by_cases h2 : (val (nv o key)).1 ≥ lo
   ·simp only [if_true, if_pos h2, decide_eq_true (show lo ≤ (val (nv o key)).1 from h2), Bool.true_and]; exact Ev.now _
   ·simp only [if_true, if_neg h2, decide_eq_false (show ¬ lo ≤ (val (nv o key)).1 from h2), Bool.false_and, Bool.and_false]; exact Ev.now _
 ·exact Ev.now _
def gS (o : List S68) (key : ByteArray) (wo : Int) : Int × Bool := ((gN o key wo).1, (gN o key wo).2 && (!(FD o key).2 || (decide (1 ≤ (gN o key wo).1) && decide ((gN o key wo).1 ≤ 4096))))
theorem sizeT_ev (o : List S68) (hs : Short o) (key : ByteArray) (wo : Int) : Ev (fun k => sizeT k o key wo) (gS o key wo) := by
 obtain ⟨K, hK⟩ := numT_ev o hs key wo
 exact ⟨K, fun k hk => by show sizeT k o key wo = _; unfold sizeT; rw [show numT k o key wo = some (gN o key wo) from hK k hk]; rfl⟩
theorem gS_gR (o : List S68) (key : ByteArray) (wo : Int) : gS o key wo = gR o key 1 4096 wo := by
 unfold gS gR gN
 cases h : (FD o key).2 <;> simp
theorem val_ge (x : Option Nat) : 0 ≤ (val x).1 := by
 cases x with
 | none => exact Int.le_refl _
 | some u => exact Int.natCast_nonneg u
theorem val_le {o : List S68} {key : ByteArray} : (val (nv o key)).1 ≤ 4611686018427387904 := by
 cases h : nv o key with
 | none => decide
 | some u =>
  have := nv_le h
  show (u : Int) ≤ _
  unfold MX at this
  omega
theorem gN_gR (o : List S68) (key : ByteArray) (wo : Int) : gN o key wo = gR o key 0 4611686018427387904 wo := by
 unfold gR gN
 split
 ·rw [decide_eq_true (val_ge _), decide_eq_true val_le]
  simp
 ·rfl
theorem gR_nat (o : List S68) (key : ByteArray) (lo hi : Int) (wo : Nat) (hw : wo ≤ MX) : ∃ u : Nat, (gR o key lo hi wo).1 = (u : Int) ∧ u ≤ MX := by
 unfold gR
 split
 ·cases h : nv o key with
  | none => exact ⟨0, rfl, by decide⟩
  | some u => exact ⟨u, rfl, nv_le h⟩
 ·exact ⟨wo, rfl, hw⟩
def numP (p : PL) (a b c d e f : Int) (g : Bool) : PL := { p with ibs := a, obs := b, cbs := c, skip := d, seek := e, count := f, all := g }
theorem setO_num (p : PL) (o : Nat) (a b c d e f : Int) (g : Bool) : (numP p a b c d e f g).setO o = numP (p.setO o) a b c d e f g := by
 unfold PL.setO
 split <;> rfl
theorem convS_num (p : PL) (w : ByteArray) (a b c d e f : Int) (g : Bool) : convS (numP p a b c d e f g) w = (numP (convS p w).1 a b c d e f g, (convS p w).2) := by
 unfold convS
 cases fieldO w with
 | none => rfl
 | some o => simp only [setO_num]
theorem rin_num (ifl : Bool) (a b c d e f : Int) (g : Bool) (ws : List ByteArray) : ∀ p : PL, rinF ifl ws (numP p a b c d e f g) = ((rinF ifl ws p).1, numP (rinF ifl ws p).2 a b c d e f g) := by
 induction ws with
 | nil => intro p; rfl
 | cons w ws ih =>
  intro p
  cases ifl with
  | true =>
   rw [rinF_t, rinF_t]
   by_cases h : isFull w = true
   ·rw [if_pos h, if_pos h]; exact ih { p with full := true }
   ·rw [if_neg h, if_neg h]
  | false =>
   rw [rinF_f, rinF_f, convS_num]
   dsimp only
   by_cases h : (convS p w).2 = true
   ·rw [if_pos h, if_pos h]; exact ih _
   ·rw [if_neg h, if_neg h]
theorem rout_num (a b c d e f : Int) (g : Bool) (l : List S68) : ∀ p : PL, routF l (numP p a b c d e f g) = ((routF l p).1, numP (routF l p).2 a b c d e f g) := by
 induction l with
 | nil => intro p; rfl
 | cons o l ih =>
  intro p
  unfold routF
  split
  ·rw [rin_num]
   split
   ·exact ih _
   ·rfl
  ·exact ih p
def sameN (p q : PL) : Prop := q.src = p.src ∧ q.dst = p.dst ∧ q.direct = p.direct
theorem setO_same (p : PL) (o : Nat) : sameN p (p.setO o) := by
 unfold PL.setO
 split <;> exact ⟨rfl, rfl, rfl⟩
theorem convS_same (p : PL) (w : ByteArray) : sameN p (convS p w).1 := by
 unfold convS
 cases fieldO w with
 | none => exact ⟨rfl, rfl, rfl⟩
 | some o => exact setO_same p o
theorem sameN.trans {p q r : PL} (h : sameN p q) (k : sameN q r) : sameN p r := ⟨k.1.trans h.1, k.2.1.trans h.2.1, k.2.2.trans h.2.2⟩
theorem rin_same (ifl : Bool) (ws : List ByteArray) : ∀ p : PL, sameN p (rinF ifl ws p).2 := by
 induction ws with
 | nil => intro p; exact ⟨rfl, rfl, rfl⟩
 | cons w ws ih =>
  intro p
  unfold rinF
  cases ifl with
  | true =>
   rw [if_pos rfl]
   split
   ·exact sameN.trans (q := { p with full := true }) ⟨rfl, rfl, rfl⟩ (ih _)
   ·exact ⟨rfl, rfl, rfl⟩
  | false =>
   rw [if_neg (by simp)]
   split
   ·exact (convS_same p w).trans (ih _)
   ·exact convS_same p w
theorem rout_same (l : List S68) : ∀ p : PL, sameN p (routF l p).2 := by
 induction l with
 | nil => intro p; exact ⟨rfl, rfl, rfl⟩
 | cons o l ih =>
  intro p
  unfold routF
  split
  ·split
   ·exact (rin_same _ _ p).trans (ih _)
   ·exact rin_same _ _ p
  ·exact ih p
def mayV (p : PL) (mc : Bool) (m1 m2 : Int × Bool) : Bool := m1.2 && (m2.2 && (decide (m2.1 ≤ 1099511627776) && (mc && (!(p.excl && p.nocreat) && (p.src.toList != p.dst.toList)))))
theorem may_ev (p : PL) (mc : Bool) (m1 m2 : Int × Bool) (hc : Ev (fun k => conv_May.f k p.swab p.block p.unblock p.lcase p.ucase p.ascii p.ebcdic p.ibm p.cbs) mc) (h1 : Ev (fun k => off_Mul.f k [p.skip, p.ibs]) m1) (h2 : Ev (fun k => off_Mul.f k [p.seek, p.obs]) m2) : Ev (fun k => mayF k p) (mayV p mc m1 m2) := by
 unfold mayF operand_may.f mayV
 refine Ev.bind h1 (Ev.bind h2 ?_)
 obtain ⟨v1, b1⟩ := m1
 obtain ⟨v2, b2⟩ := m2
 simp only
 cases b1 with
 | false => simp only [Bool.false_and]; exact Ev.now _
 | true =>
  cases b2 with
  | false => simp only [Bool.false_and, Bool.and_false, if_true]; exact Ev.now _
  | true =>
   by_cases h : v2 ≤ 1099511627776
   ·simp only [if_true, if_pos h, decide_eq_true h, Bool.true_and]
    refine Ev.bind hc ?_
    cases mc with
    | false => simp only [Bool.false_and]; exact Ev.now _
    | true =>
     cases he : p.excl with
     | false => simp only [if_true, Bool.false_and, Bool.not_false, Bool.true_and]; exact Ev.now _
     | true =>
      cases hn : p.nocreat with
      | false => simp only [if_true, Bool.and_false, Bool.not_false, Bool.true_and]; exact Ev.now _
      | true => simp only [if_true, Bool.and_true, Bool.not_true, Bool.false_and, Bool.and_false]; exact Ev.now _
   ·simp only [if_true, if_neg h, decide_eq_false h, Bool.false_and, Bool.and_false]; exact Ev.now _
theorem mul2_ev (a b : Nat) (ha : a ≤ MX) (hb : b ≤ MX) : ∃ m : Int × Bool, Ev (fun k => off_Mul.f k [(a : Int), (b : Int)]) m ∧ Ev (fun k => salvorref1_Mul.f k [(a : Int), (b : Int)]) m := by
 have hm : ∀ x ∈ [a, b], x ≤ MX := by intro x hx; simp only [List.mem_cons, List.mem_nil_iff, or_false] at hx; rcases hx with rfl | rfl <;> assumption
 exact ⟨_, PureN.mul_ev [a, b] hm (by show 2 < 4611686018427387904; decide), PureN.rmul_ev [a, b] hm (by show 2 < 4611686018427387904; decide)⟩
theorem conv_direct (p : PL) (bs : Int) : directF p bs = (decide (0 < bs) && !convertsF p) := by
 unfold directF convertsF
 cases p.swab <;> cases p.block <;> cases p.unblock <;> cases p.lcase <;> cases p.ucase <;> cases p.ascii <;> cases p.ebcdic <;> cases p.ibm <;> rfl
def okN (o : List S68) : Bool := (gR o (⟨#[105, 98, 115]⟩ : ByteArray) 1 4096 512).2 && (gR o (⟨#[111, 98, 115]⟩ : ByteArray) 1 4096 512).2 && (gR o (⟨#[99, 98, 115]⟩ : ByteArray) 1 4096 0).2 && (gR o (⟨#[98, 115]⟩ : ByteArray) 1 4096 0).2 && (gR o (⟨#[115, 107, 105, 112]⟩ : ByteArray) 0 4611686018427387904 0).2 && (gR o (⟨#[115, 101, 101, 107]⟩ : ByteArray) 0 4611686018427387904 0).2 && (gR o (⟨#[99, 111, 117, 110, 116]⟩ : ByteArray) 0 4611686018427387904 0).2
def numsF (o : List S68) (p : PL) : PL := numP p (if (FD o (⟨#[98, 115]⟩ : ByteArray)).2 = true then (gR o (⟨#[98, 115]⟩ : ByteArray) 1 4096 0).1 else (gR o (⟨#[105, 98, 115]⟩ : ByteArray) 1 4096 512).1) (if (FD o (⟨#[98, 115]⟩ : ByteArray)).2 = true then (gR o (⟨#[98, 115]⟩ : ByteArray) 1 4096 0).1 else (gR o (⟨#[111, 98, 115]⟩ : ByteArray) 1 4096 512).1) (gR o (⟨#[99, 98, 115]⟩ : ByteArray) 1 4096 0).1 (gR o (⟨#[115, 107, 105, 112]⟩ : ByteArray) 0 4611686018427387904 0).1 (gR o (⟨#[115, 101, 101, 107]⟩ : ByteArray) 0 4611686018427387904 0).1 (gR o (⟨#[99, 111, 117, 110, 116]⟩ : ByteArray) 0 4611686018427387904 0).1 (!(FD o (⟨#[99, 111, 117, 110, 116]⟩ : ByteArray)).2)
theorem sizes_ev (o : List S68) (hs : Short o) (p : PL) (ok : Bool) : Ev (fun k => sizesF k o p ok) (numsF o p, ok && (gR o (⟨#[105, 98, 115]⟩ : ByteArray) 1 4096 512).2 && (gR o (⟨#[111, 98, 115]⟩ : ByteArray) 1 4096 512).2 && (gR o (⟨#[99, 98, 115]⟩ : ByteArray) 1 4096 0).2 && (gR o (⟨#[98, 115]⟩ : ByteArray) 1 4096 0).2 && (gR o (⟨#[115, 107, 105, 112]⟩ : ByteArray) 0 4611686018427387904 0).2 && (gR o (⟨#[115, 101, 101, 107]⟩ : ByteArray) 0 4611686018427387904 0).2 && (gR o (⟨#[99, 111, 117, 110, 116]⟩ : ByteArray) 0 4611686018427387904 0).2) := by
 unfold sizesF
 refine Ev.bind (gS_gR o _ _ ▸ sizeT_ev o hs (⟨#[105, 98, 115]⟩ : ByteArray) 512) (Ev.bind (gS_gR o _ _ ▸ sizeT_ev o hs (⟨#[111, 98, 115]⟩ : ByteArray) 512) (Ev.bind (gS_gR o _ _ ▸ sizeT_ev o hs (⟨#[99, 98, 115]⟩ : ByteArray) 0) (Ev.bind (gS_gR o _ _ ▸ sizeT_ev o hs (⟨#[98, 115]⟩ : ByteArray) 0) (Ev.bind (gN_gR o _ _ ▸ numT_ev o hs (⟨#[115, 107, 105, 112]⟩ : ByteArray) 0) (Ev.bind (gN_gR o _ _ ▸ numT_ev o hs (⟨#[115, 101, 101, 107]⟩ : ByteArray) 0) (Ev.bind (gN_gR o _ _ ▸ numT_ev o hs (⟨#[99, 111, 117, 110, 116]⟩ : ByteArray) 0) ?_))))))
 exact Ev.now _
theorem name_ev (o : List S68) (hs : Short o) (key : ByteArray) (ok : Bool) : Ev (fun k => nameT k o key ok) ((FD o key).1, ok && mayS (FD o key).1) := by
 have hz := fd_size o hs.2 key
 unfold nameT
 cases ok with
 | false => exact Ev.now _
 | true =>
  obtain ⟨K, hK⟩ := img_ev (FD o key).1 (by omega)
  exact ⟨K, fun k hk => by
   show (image_MayName.f k (FD o key).1).map (fun m => ((FD o key).1, m)) = _
   rw [show image_MayName.f k (FD o key).1 = some (mayS (FD o key).1) from hK k hk]; rfl⟩
theorem flags_no (o : List S68) (p : PL) : (flagsF o (p, false)).2 = false := out_no _ _ _ _ (out_no _ _ _ _ rfl)
theorem known_ev (o : List S68) (hs : Short o) (r : PL × Int)
  (hno : mayS (FD o (⟨#[105, 102]⟩ : ByteArray)).1 = false ∨ mayS (FD o (⟨#[111, 102]⟩ : ByteArray)).1 = false ∨ okN o = false ∨ (routF o ({ zeroPL with src := (FD o (⟨#[105, 102]⟩ : ByteArray)).1, dst := (FD o (⟨#[111, 102]⟩ : ByteArray)).1 } : PL)).1 = false → r = (zeroPL, 2))
  (hyes : mayS (FD o (⟨#[105, 102]⟩ : ByteArray)).1 = true → mayS (FD o (⟨#[111, 102]⟩ : ByteArray)).1 = true → okN o = true → (routF o ({ zeroPL with src := (FD o (⟨#[105, 102]⟩ : ByteArray)).1, dst := (FD o (⟨#[111, 102]⟩ : ByteArray)).1 } : PL)).1 = true → Ev (fun k => tailF k o (numsF o (routF o ({ zeroPL with src := (FD o (⟨#[105, 102]⟩ : ByteArray)).1, dst := (FD o (⟨#[111, 102]⟩ : ByteArray)).1 } : PL)).2, true)) r) : Ev (fun k => knownF k o) r := by
 unfold knownF
 have hg : o.length ≤ 1000000 ∧ o.all (fun x => decide (x.f1.size < 4294967281)) = true := ⟨by have := hs.1; omega, by rw [List.all_eq_true]; intro x hx; have := hs.2 x hx; exact decide_eq_true (by omega)⟩
 simp only [if_pos hg]
 refine Ev.bind (name_ev o hs (⟨#[105, 102]⟩ : ByteArray) true) (Ev.bind (name_ev o hs (⟨#[111, 102]⟩ : ByteArray) _) (Ev.bind (sizes_ev o hs _ _) ?_))
 simp only [Bool.true_and]
 obtain ⟨p0, hp0⟩ : ∃ p0 : PL, p0 = { zeroPL with src := (FD o (⟨#[105, 102]⟩ : ByteArray)).1, dst := (FD o (⟨#[111, 102]⟩ : ByteArray)).1 } := ⟨_, rfl⟩
 rw [← hp0] at hno hyes ⊢
 have hbad : ∀ s : PL × Bool, s.2 = false → Ev (fun k => tailF k o s) ((zeroPL, 2) : PL × Int) := fun s h => by
  unfold tailF
  simp only [h]
  exact Ev.now _
 by_cases hall : mayS (FD o (⟨#[105, 102]⟩ : ByteArray)).1 = true ∧ mayS (FD o (⟨#[111, 102]⟩ : ByteArray)).1 = true ∧ okN o = true
 ·obtain ⟨h1, h2, h3⟩ := hall
  have e : (mayS (FD o (⟨#[105, 102]⟩ : ByteArray)).1 && mayS (FD o (⟨#[111, 102]⟩ : ByteArray)).1 && (gR o (⟨#[105, 98, 115]⟩ : ByteArray) 1 4096 512).2 && (gR o (⟨#[111, 98, 115]⟩ : ByteArray) 1 4096 512).2 && (gR o (⟨#[99, 98, 115]⟩ : ByteArray) 1 4096 0).2 && (gR o (⟨#[98, 115]⟩ : ByteArray) 1 4096 0).2 && (gR o (⟨#[115, 107, 105, 112]⟩ : ByteArray) 0 4611686018427387904 0).2 && (gR o (⟨#[115, 101, 101, 107]⟩ : ByteArray) 0 4611686018427387904 0).2 && (gR o (⟨#[99, 111, 117, 110, 116]⟩ : ByteArray) 0 4611686018427387904 0).2) = true := by
   rw [h1, h2]
   unfold okN at h3
   simpa using h3
  rw [e]
  have hn : numsF o p0 = numP p0 (if (FD o (⟨#[98, 115]⟩ : ByteArray)).2 = true then (gR o (⟨#[98, 115]⟩ : ByteArray) 1 4096 0).1 else (gR o (⟨#[105, 98, 115]⟩ : ByteArray) 1 4096 512).1) (if (FD o (⟨#[98, 115]⟩ : ByteArray)).2 = true then (gR o (⟨#[98, 115]⟩ : ByteArray) 1 4096 0).1 else (gR o (⟨#[111, 98, 115]⟩ : ByteArray) 1 4096 512).1) (gR o (⟨#[99, 98, 115]⟩ : ByteArray) 1 4096 0).1 (gR o (⟨#[115, 107, 105, 112]⟩ : ByteArray) 0 4611686018427387904 0).1 (gR o (⟨#[115, 101, 101, 107]⟩ : ByteArray) 0 4611686018427387904 0).1 (gR o (⟨#[99, 111, 117, 110, 116]⟩ : ByteArray) 0 4611686018427387904 0).1 (!(FD o (⟨#[99, 111, 117, 110, 116]⟩ : ByteArray)).2) := rfl
  obtain ⟨q1, q2⟩ := rout_flags o (numsF o p0)
  have q3 : routF o (numsF o p0) = ((routF o p0).1, numsF o (routF o p0).2) := by rw [hn, rout_num]; rfl
  rw [q3] at q1 q2
  cases h4 : (routF o p0).1 with
  | true =>
   rw [q1 h4]
   exact hyes h1 h2 h3 h4
  | false =>
   rw [hno (.inr (.inr (.inr h4)))]
   exact hbad _ (q2 h4)
 ·have e : (mayS (FD o (⟨#[105, 102]⟩ : ByteArray)).1 && mayS (FD o (⟨#[111, 102]⟩ : ByteArray)).1 && (gR o (⟨#[105, 98, 115]⟩ : ByteArray) 1 4096 512).2 && (gR o (⟨#[111, 98, 115]⟩ : ByteArray) 1 4096 512).2 && (gR o (⟨#[99, 98, 115]⟩ : ByteArray) 1 4096 0).2 && (gR o (⟨#[98, 115]⟩ : ByteArray) 1 4096 0).2 && (gR o (⟨#[115, 107, 105, 112]⟩ : ByteArray) 0 4611686018427387904 0).2 && (gR o (⟨#[115, 101, 101, 107]⟩ : ByteArray) 0 4611686018427387904 0).2 && (gR o (⟨#[99, 111, 117, 110, 116]⟩ : ByteArray) 0 4611686018427387904 0).2) = false := by
   cases h1 : mayS (FD o (⟨#[105, 102]⟩ : ByteArray)).1 with
   | false => simp
   | true =>
    cases h2 : mayS (FD o (⟨#[111, 102]⟩ : ByteArray)).1 with
    | false => simp
    | true =>
     have h3 : okN o = false := by
      cases h3 : okN o with
      | false => rfl
      | true => exact absurd ⟨h1, h2, h3⟩ hall
     unfold okN at h3
     simpa using h3
  rw [e]
  have hb : r = (zeroPL, 2) := by
   apply hno
   cases h1 : mayS (FD o (⟨#[105, 102]⟩ : ByteArray)).1 with
   | false => exact .inl rfl
   | true =>
    cases h2 : mayS (FD o (⟨#[111, 102]⟩ : ByteArray)).1 with
    | false => exact .inr (.inl rfl)
    | true =>
     cases h3 : okN o with
     | false => exact .inr (.inr (.inl rfl))
     | true => exact absurd ⟨h1, h2, h3⟩ hall
  rw [hb]
  exact hbad _ (flags_no o _)
theorem rnames_ev (o : List S68) (hs : Short o) (r : PL × Int)
  (hno : mayS (FD o (⟨#[105, 102]⟩ : ByteArray)).1 = false ∨ mayS (FD o (⟨#[111, 102]⟩ : ByteArray)).1 = false ∨ (FD o (⟨#[105, 102]⟩ : ByteArray)).1.toList = (FD o (⟨#[111, 102]⟩ : ByteArray)).1.toList ∨ okN o = false ∨ (routF o ({ zeroPL with src := (FD o (⟨#[105, 102]⟩ : ByteArray)).1, dst := (FD o (⟨#[111, 102]⟩ : ByteArray)).1 } : PL)).1 = false → r = (zeroPL, 2))
  (hyes : mayS (FD o (⟨#[105, 102]⟩ : ByteArray)).1 = true → mayS (FD o (⟨#[111, 102]⟩ : ByteArray)).1 = true → ¬ (FD o (⟨#[105, 102]⟩ : ByteArray)).1.toList = (FD o (⟨#[111, 102]⟩ : ByteArray)).1.toList → okN o = true → (routF o ({ zeroPL with src := (FD o (⟨#[105, 102]⟩ : ByteArray)).1, dst := (FD o (⟨#[111, 102]⟩ : ByteArray)).1 } : PL)).1 = true → Ev (fun k => rtailF k o { (routF o ({ zeroPL with src := (FD o (⟨#[105, 102]⟩ : ByteArray)).1, dst := (FD o (⟨#[111, 102]⟩ : ByteArray)).1 } : PL)).2 with ibs := if 0 < (gR o (⟨#[98, 115]⟩ : ByteArray) 1 4096 0).1 then (gR o (⟨#[98, 115]⟩ : ByteArray) 1 4096 0).1 else (gR o (⟨#[105, 98, 115]⟩ : ByteArray) 1 4096 512).1, obs := if 0 < (gR o (⟨#[98, 115]⟩ : ByteArray) 1 4096 0).1 then (gR o (⟨#[98, 115]⟩ : ByteArray) 1 4096 0).1 else (gR o (⟨#[111, 98, 115]⟩ : ByteArray) 1 4096 512).1, cbs := (gR o (⟨#[99, 98, 115]⟩ : ByteArray) 1 4096 0).1, skip := (gR o (⟨#[115, 107, 105, 112]⟩ : ByteArray) 0 4611686018427387904 0).1, seek := (gR o (⟨#[115, 101, 101, 107]⟩ : ByteArray) 0 4611686018427387904 0).1, count := (gR o (⟨#[99, 111, 117, 110, 116]⟩ : ByteArray) 0 4611686018427387904 0).1 } (gR o (⟨#[98, 115]⟩ : ByteArray) 1 4096 0).1) r) : Ev (fun k => rnamesF k o) r := by
 have hl := hs.1
 have z1 := fd_size o hs.2 (⟨#[105, 102]⟩ : ByteArray)
 have z2 := fd_size o hs.2 (⟨#[111, 102]⟩ : ByteArray)
 have hbad : Ev (fun _ => badR) ((zeroPL, 2) : PL × Int) := Ev.now _
 unfold rnamesF
 refine Ev.bind (find_ev o (⟨#[105, 102]⟩ : ByteArray) (by omega)) (Ev.bind (find_ev o (⟨#[111, 102]⟩ : ByteArray) (by omega)) (Ev.bind (ref_ev (FD o (⟨#[105, 102]⟩ : ByteArray)).1 (by omega)) ?_))
 show Ev (fun k => if mayS (FD o (⟨#[105, 102]⟩ : ByteArray)).1 = true then (salvorref11_MayName.f k (FD o (⟨#[111, 102]⟩ : ByteArray)).1).bind fun m2 => if m2 = true then if (FD o (⟨#[105, 102]⟩ : ByteArray)).1.toList = (FD o (⟨#[111, 102]⟩ : ByteArray)).1.toList then badR else (wordsP k ({ zeroPL with src := (FD o (⟨#[105, 102]⟩ : ByteArray)).1, dst := (FD o (⟨#[111, 102]⟩ : ByteArray)).1 } : PL) o).bind fun s => if s.1 = true then rnumF k o s.2 else badR else badR else badR) r
 cases h1 : mayS (FD o (⟨#[105, 102]⟩ : ByteArray)).1 with
 | false => rw [hno (.inl h1)]; exact hbad
 | true =>
  simp only [if_true]
  refine Ev.bind (ref_ev (FD o (⟨#[111, 102]⟩ : ByteArray)).1 (by omega)) ?_
  cases h2 : mayS (FD o (⟨#[111, 102]⟩ : ByteArray)).1 with
  | false => rw [hno (.inr (.inl h2))]; exact hbad
  | true =>
   simp only [if_true]
   by_cases h3 : (FD o (⟨#[105, 102]⟩ : ByteArray)).1.toList = (FD o (⟨#[111, 102]⟩ : ByteArray)).1.toList
   ·simp only [if_pos h3]; rw [hno (.inr (.inr (.inl h3)))]; exact hbad
   ·simp only [if_neg h3]
    refine Ev.bind (words_ev o (by omega) hs.2 _) ?_
    obtain ⟨p0, hp0⟩ : ∃ p0 : PL, p0 = { zeroPL with src := (FD o (⟨#[105, 102]⟩ : ByteArray)).1, dst := (FD o (⟨#[111, 102]⟩ : ByteArray)).1 } := ⟨_, rfl⟩
    rw [← hp0] at hno hyes ⊢
    cases h4 : (routF o p0).1 with
    | false => rw [hno (.inr (.inr (.inr (.inr h4))))]; exact hbad
    | true =>
     simp only [if_true]
     unfold rnumF
     refine Ev.bind (rnum_ev o hs (⟨#[98, 115]⟩ : ByteArray) 1 4096 0) (Ev.bind (rnum_ev o hs (⟨#[105, 98, 115]⟩ : ByteArray) 1 4096 512) (Ev.bind (rnum_ev o hs (⟨#[111, 98, 115]⟩ : ByteArray) 1 4096 512) (Ev.bind (rnum_ev o hs (⟨#[99, 98, 115]⟩ : ByteArray) 1 4096 0) (Ev.bind (rnum_ev o hs (⟨#[115, 107, 105, 112]⟩ : ByteArray) 0 4611686018427387904 0) (Ev.bind (rnum_ev o hs (⟨#[115, 101, 101, 107]⟩ : ByteArray) 0 4611686018427387904 0) (Ev.bind (rnum_ev o hs (⟨#[99, 111, 117, 110, 116]⟩ : ByteArray) 0 4611686018427387904 0) ?_))))))
     cases h5 : okN o with
     | true =>
      have h6 := h5
      unfold okN at h6
      simp only [Bool.and_eq_true] at h6
      obtain ⟨⟨⟨⟨⟨⟨e1, e2⟩, e3⟩, e4⟩, e5⟩, e6⟩, e7⟩ := h6
      simp only [e1, e2, e3, e4, e5, e6, e7, if_true]
      exact hyes h1 h2 h3 h5 h4
     | false =>
      rw [hno (.inr (.inr (.inr (.inl h5))))]
      unfold okN at h5
      have h7 : ∀ c : Bool, ∀ f : Nat → Option (PL × Int), (c = true → Ev f (zeroPL, 2)) → Ev (fun k => if c = true then f k else badR) ((zeroPL, 2) : PL × Int) := fun c f h => by
       cases c with
       | false => exact hbad
       | true => exact h rfl
      refine h7 _ _ fun e4 => h7 _ _ fun e1 => h7 _ _ fun e2 => h7 _ _ fun e3 => h7 _ _ fun e5 => h7 _ _ fun e6 => h7 _ _ fun e7 => ?_
      rw [e1, e2, e3, e4, e5, e6, e7] at h5
      cases h5
theorem both_ev (o : List S68) (hs : Short o) : ∃ r, Ev (fun k => knownF k o) r ∧ Ev (fun k => rnamesF k o) r := by
 obtain ⟨p0, hp0⟩ : ∃ p0 : PL, p0 = { zeroPL with src := (FD o (⟨#[105, 102]⟩ : ByteArray)).1, dst := (FD o (⟨#[111, 102]⟩ : ByteArray)).1 } := ⟨_, rfl⟩
 by_cases hg : mayS (FD o (⟨#[105, 102]⟩ : ByteArray)).1 = true ∧ mayS (FD o (⟨#[111, 102]⟩ : ByteArray)).1 = true ∧ okN o = true ∧ (routF o p0).1 = true
 ·obtain ⟨h1, h2, h3, h4⟩ := hg
  obtain ⟨q, hq⟩ : ∃ q : PL, q = numsF o (routF o p0).2 := ⟨_, rfl⟩
  have hsame := rout_same o p0
  have hok := h3
  unfold okN at hok
  simp only [Bool.and_eq_true] at hok
  have hbs : decide (0 < (gR o (⟨#[98, 115]⟩ : ByteArray) 1 4096 0).1) = (FD o (⟨#[98, 115]⟩ : ByteArray)).2 := by
   have e4 := hok.1.1.1.2
   unfold gR at e4 ⊢
   cases h : (FD o (⟨#[98, 115]⟩ : ByteArray)).2 with
   | true =>
    rw [h] at e4
    simp only [if_true, Bool.and_eq_true, decide_eq_true_eq] at e4 ⊢
    omega
   | false => simp
  have hbs2 : ∀ x y : Int, (if 0 < (gR o (⟨#[98, 115]⟩ : ByteArray) 1 4096 0).1 then x else y) = (if (FD o (⟨#[98, 115]⟩ : ByteArray)).2 = true then x else y) := fun x y => by
   rw [← hbs]
   by_cases h : 0 < (gR o (⟨#[98, 115]⟩ : ByteArray) 1 4096 0).1
   ·rw [if_pos h, decide_eq_true h, if_pos rfl]
   ·rw [if_neg h, decide_eq_false h, if_neg (by simp)]
  obtain ⟨mc, hc1, hc2⟩ := convs_ev q.swab q.block q.unblock q.lcase q.ucase q.ascii q.ebcdic q.ibm q.cbs
  obtain ⟨us, eus, hus⟩ := gR_nat o (⟨#[115, 107, 105, 112]⟩ : ByteArray) 0 4611686018427387904 0 (by decide)
  obtain ⟨uk, euk, huk⟩ := gR_nat o (⟨#[115, 101, 101, 107]⟩ : ByteArray) 0 4611686018427387904 0 (by decide)
  have hib : ∃ u : Nat, q.ibs = (u : Int) ∧ u ≤ MX := by
   rw [hq]
   show ∃ u : Nat, (if (FD o (⟨#[98, 115]⟩ : ByteArray)).2 = true then (gR o (⟨#[98, 115]⟩ : ByteArray) 1 4096 0).1 else (gR o (⟨#[105, 98, 115]⟩ : ByteArray) 1 4096 512).1) = (u : Int) ∧ u ≤ MX
   split
   ·exact gR_nat o (⟨#[98, 115]⟩ : ByteArray) 1 4096 0 (by decide)
   ·exact gR_nat o (⟨#[105, 98, 115]⟩ : ByteArray) 1 4096 512 (by decide)
  have hob : ∃ u : Nat, q.obs = (u : Int) ∧ u ≤ MX := by
   rw [hq]
   show ∃ u : Nat, (if (FD o (⟨#[98, 115]⟩ : ByteArray)).2 = true then (gR o (⟨#[98, 115]⟩ : ByteArray) 1 4096 0).1 else (gR o (⟨#[111, 98, 115]⟩ : ByteArray) 1 4096 512).1) = (u : Int) ∧ u ≤ MX
   split
   ·exact gR_nat o (⟨#[98, 115]⟩ : ByteArray) 1 4096 0 (by decide)
   ·exact gR_nat o (⟨#[111, 98, 115]⟩ : ByteArray) 1 4096 512 (by decide)
  obtain ⟨ui, eui, hui⟩ := hib
  obtain ⟨uo, euo, huo⟩ := hob
  have esk : q.skip = (us : Int) := by rw [hq]; exact eus
  have ese : q.seek = (uk : Int) := by rw [hq]; exact euk
  obtain ⟨m1, ha1, hr1⟩ := mul2_ev us ui hus hui
  obtain ⟨m2, ha2, hr2⟩ := mul2_ev uk uo huk huo
  rw [← esk, ← eui] at ha1 hr1
  rw [← ese, ← euo] at ha2 hr2
  have hmay := may_ev q mc m1 m2 hc1 ha1 ha2
  have hd : directF q (gR o (⟨#[98, 115]⟩ : ByteArray) 1 4096 0).1 = ((FD o (⟨#[98, 115]⟩ : ByteArray)).2 && !convertsF q) := by rw [conv_direct, hbs]
  refine ⟨if mayV q mc m1 m2 = true then ({ q with direct := (FD o (⟨#[98, 115]⟩ : ByteArray)).2 && !convertsF q }, 0) else (zeroPL, 2), ?_, ?_⟩
  ·refine known_ev o hs _ (fun h => ?_) (fun _ _ _ _ => ?_)
   ·rw [← hp0] at h
    rw [h1, h2, h3, h4] at h
    simp at h
   ·rw [← hp0, ← hq]
    unfold tailF
    simp only [if_true]
    refine Ev.bind hmay ?_
    cases mayV q mc m1 m2 with
    | true => simp only [if_true]; exact Ev.now _
    | false => exact Ev.now _
  ·have hsrc : q.src = (FD o (⟨#[105, 102]⟩ : ByteArray)).1 := by rw [hq]; exact hsame.1.trans (by rw [hp0])
   have hdst : q.dst = (FD o (⟨#[111, 102]⟩ : ByteArray)).1 := by rw [hq]; exact hsame.2.1.trans (by rw [hp0])
   refine rnames_ev o hs _ (fun h => ?_) (fun _ _ hne _ _ => ?_)
   ·rw [← hp0] at h
    rw [h1, h2, h3, h4] at h
    have h5 : (FD o (⟨#[105, 102]⟩ : ByteArray)).1.toList = (FD o (⟨#[111, 102]⟩ : ByteArray)).1.toList := by simpa using h
    have : mayV q mc m1 m2 = false := by unfold mayV; rw [hsrc, hdst, h5]; simp
    rw [this]; rfl
   ·rw [← hp0]
    simp only [hbs2]
    unfold rtailF
    refine Ev.bind (find_ev o (⟨#[99, 111, 117, 110, 116]⟩ : ByteArray) (by have := hs.1; omega)) ?_
    have E1 : Ev (fun k => salvorref1_Mul.f k [(gR o (⟨#[115, 107, 105, 112]⟩ : ByteArray) 0 4611686018427387904 0).1, (if (FD o (⟨#[98, 115]⟩ : ByteArray)).2 = true then (gR o (⟨#[98, 115]⟩ : ByteArray) 1 4096 0).1 else (gR o (⟨#[105, 98, 115]⟩ : ByteArray) 1 4096 512).1)]) m1 := by rw [hq] at hr1; exact hr1
    have E2 : Ev (fun k => salvorref1_Mul.f k [(gR o (⟨#[115, 101, 101, 107]⟩ : ByteArray) 0 4611686018427387904 0).1, (if (FD o (⟨#[98, 115]⟩ : ByteArray)).2 = true then (gR o (⟨#[98, 115]⟩ : ByteArray) 1 4096 0).1 else (gR o (⟨#[111, 98, 115]⟩ : ByteArray) 1 4096 512).1)]) m2 := by rw [hq] at hr2; exact hr2
    refine Ev.bind E1 (Ev.bind E2 ?_)
    have E3 : Ev (fun k => salvorref6_MayConvs.f k (routF o p0).2.swab (routF o p0).2.block (routF o p0).2.unblock (routF o p0).2.lcase (routF o p0).2.ucase (routF o p0).2.ascii (routF o p0).2.ebcdic (routF o p0).2.ibm (gR o (⟨#[99, 98, 115]⟩ : ByteArray) 1 4096 0).1) mc := by rw [hq] at hc2; exact hc2
    refine Ev.bind E3 ?_
    have hx : q.excl = (routF o p0).2.excl := by rw [hq]; rfl
    have hn : q.nocreat = (routF o p0).2.nocreat := by rw [hq]; rfl
    have hneb : (q.src.toList != q.dst.toList) = true := by rw [hsrc, hdst]; simpa using hne
    have hres : ∀ X : PL, X = { q with direct := (FD o (⟨#[98, 115]⟩ : ByteArray)).2 && !convertsF q } → (if mayV q mc m1 m2 = true then (({ q with direct := (FD o (⟨#[98, 115]⟩ : ByteArray)).2 && !convertsF q } : PL), (0 : Int)) else (zeroPL, 2)) = if mc = true then if (q.excl && q.nocreat) = true then (zeroPL, 2) else if m1.2 = true then if m2.2 = true then if 1099511627776 < m2.1 then (zeroPL, 2) else (X, 0) else (zeroPL, 2) else (zeroPL, 2) else (zeroPL, 2) := by
     intro X hX
     subst hX
     unfold mayV
     rw [hneb]
     cases mc <;> cases (q.excl && q.nocreat) <;> cases m1.2 <;> cases m2.2 <;> by_cases hm : 1099511627776 < m2.1 <;> simp [hm] <;> omega
    have hfin : ({ (routF o p0).2 with ibs := (if (FD o (⟨#[98, 115]⟩ : ByteArray)).2 = true then (gR o (⟨#[98, 115]⟩ : ByteArray) 1 4096 0).1 else (gR o (⟨#[105, 98, 115]⟩ : ByteArray) 1 4096 512).1), obs := (if (FD o (⟨#[98, 115]⟩ : ByteArray)).2 = true then (gR o (⟨#[98, 115]⟩ : ByteArray) 1 4096 0).1 else (gR o (⟨#[111, 98, 115]⟩ : ByteArray) 1 4096 512).1), cbs := (gR o (⟨#[99, 98, 115]⟩ : ByteArray) 1 4096 0).1, skip := (gR o (⟨#[115, 107, 105, 112]⟩ : ByteArray) 0 4611686018427387904 0).1, seek := (gR o (⟨#[115, 101, 101, 107]⟩ : ByteArray) 0 4611686018427387904 0).1, count := (gR o (⟨#[99, 111, 117, 110, 116]⟩ : ByteArray) 0 4611686018427387904 0).1, all := !(FD o (⟨#[99, 111, 117, 110, 116]⟩ : ByteArray)).2, direct := directF q (gR o (⟨#[98, 115]⟩ : ByteArray) 1 4096 0).1 } : PL) = { q with direct := (FD o (⟨#[98, 115]⟩ : ByteArray)).2 && !convertsF q } := by rw [hd, hq]; rfl
    have hdq : directF ({ (routF o p0).2 with ibs := (if (FD o (⟨#[98, 115]⟩ : ByteArray)).2 = true then (gR o (⟨#[98, 115]⟩ : ByteArray) 1 4096 0).1 else (gR o (⟨#[105, 98, 115]⟩ : ByteArray) 1 4096 512).1), obs := (if (FD o (⟨#[98, 115]⟩ : ByteArray)).2 = true then (gR o (⟨#[98, 115]⟩ : ByteArray) 1 4096 0).1 else (gR o (⟨#[111, 98, 115]⟩ : ByteArray) 1 4096 512).1), cbs := (gR o (⟨#[99, 98, 115]⟩ : ByteArray) 1 4096 0).1, skip := (gR o (⟨#[115, 107, 105, 112]⟩ : ByteArray) 0 4611686018427387904 0).1, seek := (gR o (⟨#[115, 101, 101, 107]⟩ : ByteArray) 0 4611686018427387904 0).1, count := (gR o (⟨#[99, 111, 117, 110, 116]⟩ : ByteArray) 0 4611686018427387904 0).1 } : PL) (gR o (⟨#[98, 115]⟩ : ByteArray) 1 4096 0).1 = directF q (gR o (⟨#[98, 115]⟩ : ByteArray) 1 4096 0).1 := by rw [hq]; rfl
    rw [hres _ hfin.symm.symm, hx, hn]
    have e0 : (arg_Find.g o (⟨#[99, 111, 117, 110, 116]⟩ : ByteArray) o.length) = FD o (⟨#[99, 111, 117, 110, 116]⟩ : ByteArray) := rfl
    simp only [hdq, e0]
    refine ⟨0, fun k _ => ?_⟩
    simp only [badR]
    cases mc <;> cases ((routF o p0).2.excl && (routF o p0).2.nocreat) <;> cases m1.2 <;> cases m2.2 <;> by_cases hm : 1099511627776 < m2.1 <;> simp [hm]
 ·refine ⟨(zeroPL, 2), known_ev o hs _ (fun _ => rfl) (fun h1 h2 h3 h4 => absurd ⟨h1, h2, h3, by rw [hp0]; exact h4⟩ hg), rnames_ev o hs _ (fun _ => rfl) (fun h1 h2 _ h3 h4 => absurd ⟨h1, h2, h3, by rw [hp0]; exact h4⟩ hg)⟩
theorem cutV_size (s : ByteArray) : (cutV s).size ≤ s.size := by
 unfold cutV Lib.cut
 split
 ·show (List.toArray _).size ≤ s.data.size
  rw [List.size_toArray, List.length_drop]
  have : s.data.toList.length = s.data.size := Array.length_toList
  omega
 ·exact Nat.zero_le _
theorem opsR_all (l : List ByteArray) (hs : ∀ j : Nat, j < l.length → (rdOf ByteArray.empty l j).size ≤ 1000) : ∀ (n i : Nat) (out : List S68), i + n ≤ l.length → (∀ x ∈ out, x.f1.size ≤ 1000) → ∀ x ∈ (opsR l n i out).1, x.f1.size ≤ 1000
 | 0, i, out, hi, ho => ho
 | n + 1, i, out, hi, ho => by
  unfold opsR
  split
  ·refine opsR_all l hs n (i + 1) _ (by omega) ?_
   intro x hx
   rcases List.mem_append.1 hx with h | h
   ·exact ho x h
   ·rw [List.mem_singleton.1 h]
    exact Nat.le_trans (cutV_size _) (hs i (by omega))
  ·intro x hx; simp at hx
theorem ops_ev2 (l : List ByteArray) (hs : ∀ s ∈ l, s.size ≤ 1000) : ∃ x, Ev (fun k => arg_Operands.f k l) x ∧ Ev (fun k => salvorref6_Operands.f k l) x ∧ Short x.1 := by
 by_cases h : (l.length : Int) > 40
 ·exact ⟨([], false), Ev.congr (fun k => by unfold arg_Operands.f; rw [if_pos h]) (Ev.now _), Ev.congr (fun k => by unfold salvorref6_Operands.f; rw [if_pos h]) (Ev.now _), by simp, by simp⟩
 ·have hj : ∀ j : Nat, j < l.length → (rdOf ByteArray.empty l j).size ≤ 1000 := fun j hj => hs _ (show rdOf ByteArray.empty l j ∈ l from by rw [show rdOf ByteArray.empty l j = l[j] from by simp [rdOf, hj]]; exact List.getElem_mem hj)
  obtain ⟨h1, h2, h3⟩ := ops_at l (by omega) hj l.length 0 (by omega) (by omega) [] (by simp)
  exact ⟨_, Ev.congr (fun k => by unfold arg_Operands.f; rw [if_neg h]; rfl) h1, Ev.congr (fun k => by unfold salvorref6_Operands.f; rw [if_neg h]; rfl) h2, h3, opsR_all l hj l.length 0 [] (by omega) (by simp)⟩
theorem parse_same (l : List ByteArray) (hs : ∀ s ∈ l, s.size ≤ 1000) : ∃ r, Ev (fun k => parseF k l) r ∧ Ev (fun k => rparseF k l) r := by
 obtain ⟨⟨o, ok⟩, h1, h2, h3⟩ := ops_ev2 l hs
 have hl : o.length ≤ 60 := h3.1
 unfold parseF rparseF
 cases ok with
 | false => exact ⟨(zeroPL, 2), Ev.bind h1 (Ev.now _), Ev.bind h2 (Ev.now _)⟩
 | true =>
  have hO : arg_Only.f o keysW = some (!outF keysW o) := by
   unfold arg_Only.f
   rw [if_pos ⟨by omega, by decide⟩]
  have hR := only_ev o keysW (by omega) (by decide)
  cases hon : (!outF keysW o) with
  | false =>
   rw [hon] at hO hR
   exact ⟨(zeroPL, 2), Ev.bind h1 (by simp only [if_true, hO]; exact Ev.now _), Ev.bind h2 (by simp only [if_true]; exact Ev.bind hR (Ev.now _))⟩
  | true =>
   rw [hon] at hO hR
   obtain ⟨r, hr1, hr2⟩ := both_ev o h3
   exact ⟨r, Ev.bind h1 (by simp only [if_true, hO]; exact Ev.bind (Ev.now _) (by simpa using hr1)), Ev.bind h2 (by simp only [if_true]; exact Ev.bind hR (by simpa using hr2))⟩
end Go.Proofs.YtbmhfnncagncmaaGreatDoor.Pure
end
