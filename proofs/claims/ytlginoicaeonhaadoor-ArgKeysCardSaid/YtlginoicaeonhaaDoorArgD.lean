/- Plain laws: operands of made-up keys. No program in sight. No conditions. -/
import Derived.Test.YtlginoicaeonhaaDoorArgB
import Derived.Lib.SmallJoins
import Derived.Lib.IndexBytes
namespace Go.Proofs.YtlginoicaeonhaaDoor.Pure
open Go.RowKit Go.Proofs.YtlginoicaeonhaaDoorW.PrintWords Go.Proofs.YtlginoicaeonhaaDoorW.PrintLast Go.Proofs.YtlginoicaeonhaaDoor.P
set_option linter.unusedVariables false
set_option linter.unusedSimpArgs false
theorem ib (c : UInt8) (v : List UInt8) : ∀ k : List UInt8, c ∉ k → Lib.indexByte (k ++ c :: v) c = (k.length : Int)
  | [], _ => by simp [Lib.indexByte]
  | b :: k, h => by
    simp only [List.mem_cons, not_or] at h
    have ih := ib c v k h.2
    rw [List.cons_append, Lib.indexByte, ih]
    have hb : ¬ (b == c) = true := by simpa using fun e => h.1 e.symm
    rw [if_neg hb, if_neg (by simp)]
    simp
theorem cut_mk (k v : ByteArray) (h : (61 : UInt8) ∉ k.data.toList) : cutK ((k ++ ⟨#[61]⟩) ++ v) = k ∧ cutV ((k ++ ⟨#[61]⟩) ++ v) = v ∧ cutH ((k ++ ⟨#[61]⟩) ++ v) = true := by
  have hd : ((k ++ ⟨#[61]⟩) ++ v).data.toList = k.data.toList ++ 61 :: v.data.toList := by
    rw [Go.Joins.data_append, Go.Joins.data_append]; simp
  have hx : Lib.index ((k ++ ⟨#[61]⟩) ++ v).data.toList [61] = (k.data.toList.length : Int) := by
    rw [hd, Lib.index_one, ib 61 _ _ h]
  have hc : Lib.cut ((k ++ ⟨#[61]⟩) ++ v).data.toList [61] = (k.data.toList, v.data.toList, true) := by
    unfold Lib.cut
    rw [if_pos (by rw [hx]; omega), hx, hd, Int.toNat_natCast]
    refine Prod.ext ?_ (Prod.ext ?_ rfl)
    · simp
    · show List.drop (k.data.toList.length + 1) (k.data.toList ++ 61 :: v.data.toList) = _
      rw [show k.data.toList ++ 61 :: v.data.toList = (k.data.toList ++ [61]) ++ v.data.toList from by simp, List.drop_left' (by simp)]
  unfold cutK cutV cutH
  rw [hc]
  exact ⟨Go.WideShapes.bytes_inj (by simp), Go.WideShapes.bytes_inj (by simp), rfl⟩
def keys8 : List ByteArray := [(⟨#[105, 102]⟩ : ByteArray), (⟨#[111, 102]⟩ : ByteArray), (⟨#[98, 115]⟩ : ByteArray), (⟨#[99, 111, 110, 118]⟩ : ByteArray), (⟨#[105, 102, 108, 97, 103]⟩ : ByteArray), (⟨#[115, 107, 105, 112]⟩ : ByteArray), (⟨#[97, 98, 99, 100, 101, 102, 103, 104, 105, 106]⟩ : ByteArray), (⟨#[122]⟩ : ByteArray)]
def ky (i : Nat) : ByteArray := rdOf ByteArray.empty keys8 i
theorem ky_ok : ∀ i : Fin 8, keyB (ky i) = true ∧ (ky i).size ≤ 10 ∧ ¬ (61 : UInt8) ∈ (ky i).data.toList := by decide +kernel
theorem ky_ne : ∀ i j : Fin 8, i ≠ j → ¬ (ky i).toList = (ky j).toList := by decide +kernel
theorem ky_conv : ∀ i : Fin 8, ((ky i).toList = [99, 111, 110, 118] ↔ i.val = 3) ∧ ((ky i).toList = [105, 102, 108, 97, 103] ↔ i.val = 4) := by decide +kernel
def mkA (v : List ByteArray) (i : Nat) : ByteArray := (ky i ++ ⟨#[61]⟩) ++ rdOf ByteArray.empty v i
def mkO (v : List ByteArray) (i : Nat) : S31 := ⟨ky i, rdOf ByteArray.empty v i⟩
def As (v : List ByteArray) (n : Nat) : List ByteArray := (List.range n).map (mkA v)
def Os (v : List ByteArray) (n : Nat) : List S31 := (List.range n).map (mkO v)
theorem Os_rd (v : List ByteArray) (n i : Nat) (h : i < n) : rd_T31 (Os v n) i = mkO v i := by simp [rd_T31, Os, h]
theorem As_rd (v : List ByteArray) (n i : Nat) (h : i < n) : rdOf ByteArray.empty (As v n) i = mkA v i := by simp [rdOf, As, h]
theorem As_succ (v : List ByteArray) (n : Nat) : As v (n + 1) = As v n ++ [mkA v n] := by simp [As, List.range_succ]
theorem Os_succ (v : List ByteArray) (n : Nat) : Os v (n + 1) = Os v n ++ [mkO v n] := by simp [Os, List.range_succ]
theorem Os_len (v : List ByteArray) (n : Nat) : (Os v n).length = n := by simp [Os]
theorem As_len (v : List ByteArray) (n : Nat) : (As v n).length = n := by simp [As]
theorem find_new (v : List ByteArray) (n : Nat) (hn : n < 8) : (arg_Find.g (Os v n) (ky n) (Os v n).length).2 = false := by
  rw [arg_Find.g_skip _ _ _ (fun i hi => by
    rw [Os_len] at hi
    rw [Os_rd v n i hi]
    exact ky_ne ⟨i, by omega⟩ ⟨n, hn⟩ (by simp [Fin.ext_iff]; omega))]
theorem find_old (v : List ByteArray) (n j : Nat) (hn : n ≤ 8) (hj : j < n) : arg_Find.g (Os v n) (ky j) (Os v n).length = (rdOf ByteArray.empty v j, true) := by
  rw [arg_Find.g_hit (Os v n) (ky j) j (by rw [Os_rd v n j hj]; rfl) _ (by rw [Os_len]; exact hj) (fun i h1 h2 => by
    rw [Os_len] at h2
    rw [Os_rd v n i h2]
    exact ky_ne ⟨i, by omega⟩ ⟨j, by omega⟩ (by simp [Fin.ext_iff]; omega)), Os_rd v n j hj]
  rfl
end Go.Proofs.YtlginoicaeonhaaDoor.Pure
