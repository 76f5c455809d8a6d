/- Plain laws of dd's operands: what Parse answers hangs on the last operand of each key, and on which words of conv and iflag stand, alone. No program in sight. No conditions beyond those that the lemmas name. -/
import Derived.Test.YtbmhfnncagncmaaDoorPx0
import Derived.Test.YtbmhfnncagncmaaDoorPx4
import Derived.Test.YtbmhfnncagncmaaDoorOprF
namespace Go.Proofs.YtbmhfnncagncmaaDoor.PureO
open Go.RowKit Go.Proofs.YtbmhfnncagncmaaDoorW.PrintWords Go.Proofs.YtbmhfnncagncmaaDoorW.PrintLast Go.Proofs.YtbmhfnncagncmaaDoor.P
set_option linter.unusedVariables false
set_option linter.unusedSimpArgs false
/-- A plan with more flags. -/
def orP (p : PL) (f : Nat → Bool) : PL := { p with swab := p.swab || f 0, block := p.block || f 1, unblock := p.unblock || f 2, lcase := p.lcase || f 3, ucase := p.ucase || f 4, ascii := p.ascii || f 5, ebcdic := p.ebcdic || f 6, ibm := p.ibm || f 7, sync := p.sync || f 19, noerror := p.noerror || f 20, notrunc := p.notrunc || f 21, sparse := p.sparse || f 22, fsync := p.fsync || f 23, excl := p.excl || f 24, nocreat := p.nocreat || f 25 }
theorem setO_or (p : PL) (o : Nat) (h : o ∈ offs) : p.setO o = orP p (fun i => o == i) := by
  simp only [offs, List.mem_cons, List.mem_nil_iff, or_false] at h
  rcases h with rfl | rfl | rfl | rfl | rfl | rfl | rfl | rfl | rfl | rfl | rfl | rfl | rfl | rfl | rfl <;> simp [PL.setO, orP]
theorem orP_or (p : PL) (f g : Nat → Bool) : orP (orP p f) g = orP p (fun i => f i || g i) := by simp [orP, Bool.or_assoc]
theorem orP_none (p : PL) : orP p (fun _ => false) = p := by simp [orP]
theorem field_mem {w : ByteArray} {o : Nat} (h : fieldO w = some o) : o ∈ offs := by
  unfold fieldO at h
  split at h
  · cases h
  · cases h; exact offs_mem _
theorem conv_in : ∀ (ws : List ByteArray) (p : PL) (b : Bool), inF convS ws (p, b) = (orP p (fun i => ws.any (fun w => fieldO w == some i)), ws.all (fun w => (fieldO w).isSome) && b)
  | [], p, b => by
    show (p, b) = _
    simp only [List.any_nil, List.all_nil, Bool.true_and, orP_none]
  | w :: ws, p, b => by
    show inF convS ws ((convS p w).1, (convS p w).2 && b) = _
    rw [conv_in ws]
    unfold convS
    cases h : fieldO w with
    | none => simp [h]
    | some o =>
      simp only [h, Option.isSome_some, Bool.true_and, List.any_cons, List.all_cons]
      rw [setO_or p o (field_mem h), orP_or]
      congr 2
theorem iflag_in : ∀ (ws : List ByteArray) (p : PL) (b : Bool), inF iflagS ws (p, b) = ({ p with full := p.full || ws.any isFull }, ws.all isFull && b)
  | [], p, b => by
    show (p, b) = _
    simp
  | w :: ws, p, b => by
    show inF iflagS ws ((iflagS p w).1, (iflagS p w).2 && b) = _
    rw [iflag_in ws]
    simp only [iflagS, List.any_cons, List.all_cons, Bool.or_assoc]
    congr 1
    cases isFull w <;> simp
/-- The operands of a key. -/
def sel (key : ByteArray) (l : List S60) : List S60 := l.filter fun o => o.f0.toList == key.toList
theorem sel_app (key : ByteArray) (a b : List S60) : sel key (a ++ b) = sel key a ++ sel key b := List.filter_append ..
def wds (l : List S60) : List ByteArray := l.flatMap fun o => wordsOf o.f1
theorem inF_app (sem : PL → ByteArray → PL × Bool) (a b : List ByteArray) (s : PL × Bool) : inF sem (a ++ b) s = inF sem b (inF sem a s) := List.foldl_append ..
theorem out_eq (sem : PL → ByteArray → PL × Bool) (key : ByteArray) : ∀ (l : List S60) (s : PL × Bool), outFl sem key l s = inF sem (wds (sel key l)) s
  | [], s => rfl
  | o :: l, s => by
    show outFl sem key l (if (o.f0.toList == key.toList) = true then inF sem (wordsOf o.f1) s else s) = _
    unfold sel
    rw [List.filter_cons, out_eq sem key l]
    by_cases h : (o.f0.toList == key.toList) = true
    · rw [if_pos h, if_pos h]
      show _ = inF sem (wordsOf o.f1 ++ wds (sel key l)) s
      rw [inF_app]
    · rw [if_neg h, if_neg h]; rfl
theorem find_at (l : List S60) (key : ByteArray) : ∀ n : Nat, n ≤ l.length → arg_Find.g l key n = match (sel key (l.take n)).getLast? with
    | some o => (o.f1, true)
    | none => (⟨#[]⟩, false)
  | 0, _ => rfl
  | n + 1, h => by
    have e : rd_T60 l (n : Int) = l[n] := by simp [rd_T60, show n < l.length by omega]
    rw [arg_Find.g, e, List.take_succ_eq_append_getElem (by omega), sel_app, find_at l key n (by omega)]
    by_cases c : l[n].f0.toList = key.toList
    · rw [if_pos c]
      have : sel key [l[n]] = [l[n]] := by unfold sel; simp [c]
      rw [this, List.getLast?_append]; rfl
    · rw [if_neg c]
      have : sel key [l[n]] = [] := by unfold sel; simp [c]
      rw [this, List.append_nil]
theorem find_sel (l : List S60) (key : ByteArray) : arg_Find.g l key l.length = match (sel key l).getLast? with
    | some o => (o.f1, true)
    | none => (⟨#[]⟩, false) := by
  have := find_at l key l.length (Nat.le_refl _)
  rw [List.take_length] at this
  exact this
def kIf : ByteArray := ⟨#[105, 102]⟩
def kOf : ByteArray := ⟨#[111, 102]⟩
def kIbs : ByteArray := ⟨#[105, 98, 115]⟩
def kObs : ByteArray := ⟨#[111, 98, 115]⟩
def kCbs : ByteArray := ⟨#[99, 98, 115]⟩
def kBs : ByteArray := ⟨#[98, 115]⟩
def kSkip : ByteArray := ⟨#[115, 107, 105, 112]⟩
def kSeek : ByteArray := ⟨#[115, 101, 101, 107]⟩
def kCount : ByteArray := ⟨#[99, 111, 117, 110, 116]⟩
def kConv : ByteArray := ⟨#[99, 111, 110, 118]⟩
def kFlag : ByteArray := ⟨#[105, 102, 108, 97, 103]⟩
def nine : List ByteArray := [kIf, kOf, kIbs, kObs, kCbs, kBs, kSkip, kSeek, kCount]
/-- Two lists of operands that say the same. -/
structure Same (a b : List S60) : Prop where
  find : ∀ key ∈ nine, arg_Find.g a key a.length = arg_Find.g b key b.length
  flag : wds (sel kFlag a) = wds (sel kFlag b)
  any : ∀ i, (wds (sel kConv a)).any (fun w => fieldO w == some i) = (wds (sel kConv b)).any (fun w => fieldO w == some i)
  all : (wds (sel kConv a)).all (fun w => (fieldO w).isSome) = (wds (sel kConv b)).all (fun w => (fieldO w).isSome)
theorem flags_same {a b : List S60} (h : Same a b) (s : PL × Bool) : flagsF a s = flagsF b s := by
  obtain ⟨p, ok⟩ := s
  unfold flagsF
  rw [out_eq, out_eq, out_eq, out_eq]
  show inF iflagS (wds (sel kFlag a)) (inF convS (wds (sel kConv a)) (p, ok)) = inF iflagS (wds (sel kFlag b)) (inF convS (wds (sel kConv b)) (p, ok))
  rw [conv_in, conv_in, h.flag, h.all]
  have e : (fun i => (wds (sel kConv a)).any (fun w => fieldO w == some i)) = (fun i => (wds (sel kConv b)).any (fun w => fieldO w == some i)) := funext h.any
  rw [e]
theorem known_same (k : Nat) {a b : List S60} (h : Same a b) (ha : a.length ≤ 1000000 ∧ a.all (fun x => decide (x.f1.size < 4294967281)) = true) (hb : b.length ≤ 1000000 ∧ b.all (fun x => decide (x.f1.size < 4294967281)) = true) : knownF k a = knownF k b := by
  have f1 := h.find kIf (by simp [nine])
  have f2 := h.find kOf (by simp [nine])
  have f3 := h.find kIbs (by simp [nine])
  have f4 := h.find kObs (by simp [nine])
  have f5 := h.find kCbs (by simp [nine])
  have f6 := h.find kBs (by simp [nine])
  have f7 := h.find kSkip (by simp [nine])
  have f8 := h.find kSeek (by simp [nine])
  have f9 := h.find kCount (by simp [nine])
  have g : flagsF a = flagsF b := funext (flags_same h)
  unfold kIf at f1
  unfold kOf at f2
  unfold kIbs at f3
  unfold kObs at f4
  unfold kCbs at f5
  unfold kBs at f6
  unfold kSkip at f7
  unfold kSeek at f8
  unfold kCount at f9
  have n1 : nameT k a ⟨#[105, 102]⟩ = nameT k b ⟨#[105, 102]⟩ := by funext ok; unfold nameT; rw [f1]
  have n2 : nameT k a ⟨#[111, 102]⟩ = nameT k b ⟨#[111, 102]⟩ := by funext ok; unfold nameT; rw [f2]
  have s1 : sizesF k a = sizesF k b := by
    funext p ok
    unfold sizesF sizeT numT hasT
    rw [f3, f4, f5, f6, f7, f8, f9]
  have t1 : tailF k a = tailF k b := by
    funext s
    unfold tailF hasT
    rw [f6]
  unfold knownF
  rw [if_pos ha, if_pos hb, n1, n2, s1, t1, g]
end Go.Proofs.YtbmhfnncagncmaaDoor.PureO
