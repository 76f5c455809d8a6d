/- Plain laws of dd's operands: words joined by commas come apart again; an operand's first bytes. No program in sight. No conditions beyond those that the lemmas name. -/
import Derived.Test.YtbmhfnncagncmaaDoorPx0
import Derived.Test.YtbmhfnncagncmaaDoorOrdC
import Derived.Lib.CountLaws
namespace Go.Proofs.YtbmhfnncagncmaaDoor.PureO
open Go.RowKit Go.Proofs.YtbmhfnncagncmaaDoorW.PrintWords Go.Proofs.YtbmhfnncagncmaaDoorW.PrintLast Go.Proofs.YtbmhfnncagncmaaDoor.P
set_option linter.unusedVariables false
set_option linter.unusedSimpArgs false
def comma : ByteArray := ⟨#[44]⟩
/-- Words with commas between. -/
def jn : List ByteArray → ByteArray
  | [] => ⟨#[]⟩
  | [w] => w
  | w :: v :: ws => (w ++ comma) ++ jn (v :: ws)
theorem jn_snoc (x : ByteArray) : ∀ (ws : List ByteArray), ws ≠ [] → jn (ws ++ [x]) = (jn ws ++ comma) ++ x
  | [], h => absurd rfl h
  | [w], _ => rfl
  | w :: v :: ws, _ => by
    show (w ++ comma) ++ jn (v :: (ws ++ [x])) = (((w ++ comma) ++ jn (v :: ws)) ++ comma) ++ x
    have := jn_snoc x (v :: ws) (by simp)
    rw [show v :: (ws ++ [x]) = (v :: ws) ++ [x] from rfl, this]
    simp only [ByteArray.append_assoc]
theorem jn_nil {ws : List ByteArray} (hw : ∀ w ∈ ws, 0 < w.size) (h : (jn ws).toList = []) : ws = [] := by
  have h : (jn ws).size = 0 := by
    rw [ByteArray.toList_eq] at h
    show (jn ws).data.size = 0
    rw [← Array.length_toList, h]; rfl
  match ws with
  | [] => rfl
  | [w] => have := hw w (by simp); unfold jn at h; omega
  | w :: v :: ws =>
    have := hw w (by simp)
    unfold jn at h
    rw [ByteArray.size_append, ByteArray.size_append] at h
    omega
theorem jn_size {ws : List ByteArray} (hw : ∀ w ∈ ws, w.size ≤ 10) : (jn ws).size ≤ 11 * ws.length := by
  match ws with
  | [] => exact Nat.zero_le _
  | [w] => have := hw w (by simp); unfold jn; simp; omega
  | w :: v :: ws =>
    have h1 := hw w (by simp)
    have h2 := jn_size (ws := v :: ws) (fun x hx => hw x (List.mem_cons_of_mem _ hx))
    unfold jn
    rw [ByteArray.size_append, ByteArray.size_append, show comma.size = 1 from rfl]
    simp only [List.length_cons] at h2 ⊢
    omega
theorem index_miss {s : ByteArray} (h : (44 : UInt8) ∉ s.data.toList) : Lib.indexB s comma = -1 := by
  show Lib.index s.data.toList [44] = -1
  rw [Lib.index_one]
  generalize s.data.toList = l at h
  induction l with
  | nil => simp [Lib.indexByte]
  | cons b l ih =>
    simp only [List.mem_cons, not_or] at h
    rw [Lib.indexByte, ih h.2, if_neg (by simpa using fun e => h.1 e.symm)]
    rfl
theorem index_hit {w r : ByteArray} (h : (44 : UInt8) ∉ w.data.toList) : Lib.indexB ((w ++ comma) ++ r) comma = (w.size : Int) := by
  show Lib.index ((w ++ comma) ++ r).data.toList [44] = _
  rw [Lib.index_one, show ((w ++ comma) ++ r).data.toList = w.data.toList ++ 44 :: r.data.toList by rw [Go.Joins.data_append, Go.Joins.data_append]; simp [comma], ib 44 _ _ h]
  rfl
theorem words_one {w : ByteArray} (h : (44 : UInt8) ∉ w.data.toList) : wordsOf w = [w] := by
  unfold wordsOf
  show Lib.splitB comma 0 (Lib.countB w comma) w = [w]
  rw [Lib.countB_miss w comma (index_miss h), Lib.splitB_zero]
theorem words_more {w r : ByteArray} (h : (44 : UInt8) ∉ w.data.toList) : wordsOf ((w ++ comma) ++ r) = w :: wordsOf r := by
  have e0 : ((w ++ comma) ++ r).extract 0 (w.size + 0) = w := by
    rw [ByteArray.append_assoc, Nat.add_zero]
    exact ByteArray.extract_append_eq_left rfl
  have e1 : ((w ++ comma) ++ r).extract (w.size + comma.size) ((w ++ comma) ++ r).size = r := by
    exact ByteArray.extract_append_eq_right (by rw [ByteArray.size_append]) (by rw [ByteArray.size_append])
  unfold wordsOf
  show Lib.splitB comma 0 (Lib.countB ((w ++ comma) ++ r) comma) ((w ++ comma) ++ r) = w :: Lib.splitB comma 0 (Lib.countB r comma) r
  rw [Lib.countB_hit _ comma w.size (by decide) (index_hit h), e1, Nat.add_comm 1, Lib.splitB_hit comma 0 _ _ w.size (index_hit h), e0, e1]
/-- Words joined come apart again. -/
theorem words_jn : ∀ ws : List ByteArray, ws ≠ [] → (∀ w ∈ ws, (44 : UInt8) ∉ w.data.toList) → wordsOf (jn ws) = ws
  | [], h, _ => absurd rfl h
  | [w], _, h => words_one (h w (by simp))
  | w :: v :: ws, _, h => by
    unfold jn
    rw [words_more (h w (by simp)), words_jn (v :: ws) (by simp) (fun x hx => h x (List.mem_cons_of_mem _ hx))]
theorem conv_words : ∀ w ∈ convW, (44 : UInt8) ∉ w.data.toList ∧ 0 < w.size ∧ w.size ≤ 10 := by decide +kernel
/-! ### The first five bytes -/
theorem first5 (o : S60) : ((textOf o).extract 0 5).toList = (o.f0.data.toList ++ 61 :: o.f1.data.toList).take 5 := by
  have hd : (textOf o).data.toList = o.f0.data.toList ++ 61 :: o.f1.data.toList := by
    unfold textOf
    rw [Go.Joins.data_append, Go.Joins.data_append]; simp
  rw [ByteArray.toList_eq, ← hd]
  rw [ByteArray.data_extract]
  simp
theorem first_rest {o : S60} (h : o.f0 ∈ K) : (((textOf o).extract 0 5).toList == ([99, 111, 110, 118, 61] : List UInt8)) = false := by
  rw [first5, beq_eq_false_iff_ne]
  generalize o.f0 = k at h
  simp only [K, List.mem_cons, List.mem_nil_iff, or_false] at h
  rcases h with rfl | rfl | rfl | rfl | rfl | rfl | rfl | rfl | rfl | rfl <;> simp [kOf, kIf, kIbs, kObs, kBs, kCbs, kSkip, kSeek, kCount, kFlag]
theorem first_conv {o : S60} (h : o.f0 = kConv) : (((textOf o).extract 0 5).toList == ([99, 111, 110, 118, 61] : List UInt8)) = true := by
  rw [first5, h]
  simp [kConv]
theorem rest_conv {o : S60} (h : o.f0 = kConv) : (textOf o).extract 5 (textOf o).size = o.f1 := by
  unfold textOf
  rw [h]
  exact ByteArray.extract_append_eq_right rfl (by rw [ByteArray.size_append])
theorem conv_size {o : S60} (h : o.f0 = kConv) : (textOf o).size = 5 + o.f1.size := by
  unfold textOf
  rw [h, ByteArray.size_append]
  rfl
end Go.Proofs.YtbmhfnncagncmaaDoor.PureO
