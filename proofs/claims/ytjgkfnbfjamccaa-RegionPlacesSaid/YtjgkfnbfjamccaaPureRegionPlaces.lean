/- RegionPlaces: the plain part, and that the program's function returns true. No conditions beyond those that the lemmas name. -/
import Derived.Test.YtjgkfnbfjamccaaRegP
import Derived.Test.YtjgkfnbfjamccaaRegD
import Derived.Test.YtjgkfnbfjamccaaRegH
import Derived.Test.YtjgkfnbfjamccaaRegJ
import Derived.Test.YtjgkfnbfjamccaaPureRegionRuns
import Derived.Test.YtjgkfnbfjamccaaOpen
namespace Go.Proofs.Ytjgkfnbfjamccaa.Pure
open Go.RowKit Go.Proofs.YtjgkfnbfjamccaaW.PrintWords Go.Proofs.YtjgkfnbfjamccaaW.PrintLast Go.Proofs.YtjgkfnbfjamccaaW.PrintMore Go.Proofs.Ytjgkfnbfjamccaa.P Go.Proofs.Ytjgkfnbfjamccaa.Reg Go.Proofs.Ytjgkfnbfjamccaa.Open
set_option linter.unusedVariables false
set_option linter.unusedSimpArgs false
theorem num_const (f : Int → Int) (c s : Int) (e : Nat) : ∀ d : Nat, (∀ x : Nat, e ≤ x → x < e + d → f x = s) → num f c (e + d) = num f c e + (if s = c then (d : Int) else 0)
  | 0, _ => by simp
  | d + 1, h => by
    rw [show e + (d + 1) = (e + d) + 1 from rfl, show num f c (e + d + 1) = num f c (e + d) + (if f ((e + d : Nat) : Int) = c then 1 else 0) from rfl, num_const f c s e d (fun x h1 h2 => h x h1 (by omega)), h (e + d) (by omega) (by omega)]
    split <;> omega
theorem cnt_num (f : Int → Int) (c : Int) : ∀ (l : List S26) (E : Nat) (p : Option Int), mayL E p l = true → (E : Int) ≤ 1099511627776 → (∀ x : Nat, E ≤ x → (x : Int) < endOf E l → stAt E l x = some (f x)) → cntL [c] (num f c E) l = num f c (endOf E l).toNat
  | [], E, p, _, _, _ => by simp [cntL, endOf]
  | r :: t, E, p, h, hE, hx => by
    obtain ⟨g1, g2, g3, g4, g5, g6⟩ := mayL_cons h
    obtain ⟨d, hd⟩ : ∃ d : Nat, r.f1 = (d : Int) := ⟨r.f1.toNat, by omega⟩
    have hcast : (E : Int) + r.f1 = ((E + d : Nat) : Int) := by rw [hd]; omega
    have hend : endOf (E : Int) (r :: t) = endOf ((E + d : Nat) : Int) t := by rw [← hcast]; rfl
    rw [hcast] at g6
    have hge := mayL_end g6 (by omega)
    have hn := num_le f c E
    have hin : ∀ x : Nat, E ≤ x → x < E + d → f x = r.f2 := by
      intro x h1 h2
      have := hx x h1 (by rw [hend]; omega)
      rw [show stAt (E : Int) (r :: t) (x : Int) = (if (x : Int) < E then none else if (x : Int) < E + r.f1 then some r.f2 else stAt (E + r.f1) t x) from rfl, if_neg (by omega), if_pos (by omega)] at this
      exact (Option.some.inj this).symm
    have hout : ∀ x : Nat, E + d ≤ x → (x : Int) < endOf ((E + d : Nat) : Int) t → stAt ((E + d : Nat) : Int) t x = some (f x) := by
      intro x h1 h2
      have := hx x (by omega) (by rw [hend]; exact h2)
      rw [show stAt (E : Int) (r :: t) (x : Int) = (if (x : Int) < E then none else if (x : Int) < E + r.f1 then some r.f2 else stAt (E + r.f1) t x) from rfl, if_neg (by omega), if_neg (by omega), hcast] at this
      exact this
    have hk := num_const f c r.f2 E d hin
    have ih := cnt_num f c t (E + d) (some r.f2) g6 (by omega) hout
    rw [hend, ← ih, show cntL [c] (num f c E) (r :: t) = cntL [c] (if [c] = [] ∨ [c].contains r.f2 = true then wrap64 (num f c E + r.f1) else num f c E) t from rfl]
    congr 1
    rw [hk]
    by_cases hc : r.f2 = c
    · rw [if_pos hc, if_pos (.inr (by simp [hc])), hd, wrap_in (by omega) (by omega)]
    · rw [if_neg hc, if_neg (by simp [hc]), Int.add_zero]
theorem cnt_all : ∀ (l : List S26) (E : Int) (p : Option Int), mayL E p l = true → 0 ≤ E → E ≤ 1099511627776 → cntL [] E l = endOf E l
  | [], E, p, _, _, _ => rfl
  | r :: t, E, p, h, h0, hE => by
    obtain ⟨g1, g2, g3, g4, g5, g6⟩ := mayL_cons h
    rw [show cntL [] E (r :: t) = cntL [] (if ([] : List Int) = [] ∨ ([] : List Int).contains r.f2 = true then wrap64 (E + r.f1) else E) t from rfl, if_pos (.inl rfl), wrap_in (by omega) (by omega), cnt_all t (E + r.f1) _ g6 (by omega) (by omega)]
    rfl
theorem atL_mem {x : Int} {l : List S26} {a b s : Int} (h : atL x l = (a, b, s, true)) : ∃ r ∈ l, r.f0 = a ∧ r.f1 = b := by
  induction l with
  | nil => simp [atL] at h
  | cons r t ih =>
    unfold atL at h
    split at h
    · simp only [Prod.mk.injEq] at h
      exact ⟨r, List.mem_cons_self, h.1, h.2.1⟩
    · obtain ⟨q, h1, h2⟩ := ih h
      exact ⟨q, List.mem_cons_of_mem _ h1, h2⟩
theorem places_true (a0 : Int) (h0 : (Lit.int .u8 a0).wf = true) (A1 : Option Addr) (c1 : Nat) (l1 : List S40) (hs : ∀ x ∈ l1, WF40 x) (w : World) (hr1 : Kd.C k40 w A1 l1.length l1) (hc1 : l1.length ≤ c1) :
    Calls Try.prog 8 #[.int .u8 a0, .slice A1 l1.length c1] w fun e w' => e = .returned (.bool true) ∧ Below w.heap.size w w' := by
  have hruns : ∃ k, salvorlaw16_RegionRuns.f k = some true := RegionRuns
  obtain ⟨r0, r1⟩ := u8_range h0
  obtain ⟨n, rfl⟩ : ∃ n : Nat, a0 = (n : Int) := ⟨a0.toNat, by omega⟩
  by_cases hl : l1.length ≤ 30
  · have hsm : ∀ c ∈ l1, Small c := fun c hc => WF40_range (hs c hc)
    obtain ⟨T, e1, e2, e3, e4⟩ := made_ev (n : Int) (by omega) (by omega) l1 hsm (by omega)
    have hge := mayL_end e2 (by omega)
    have hTl : T.length ≤ 4611686018427387904 := by omega
    refine places_walk n (by omega) A1 c1 l1 w hr1 hc1 hl (fun i hi => ?_) T (Ev.rounds e1) ?_ ?_ (fun p hp => ?_) ?_ (fun c => ?_) ?_ hruns
    · have : rd_T40 l1 (i : Int) = l1[i] := by simp [rd_T40, hi]
      rw [this]
      exact hsm _ (List.getElem_mem hi)
    · have := may T hTl
      rw [e2] at this
      exact Ev.rounds this
    · have := end_ev T hTl
      rw [if_pos e2, e3] at this
      exact Ev.rounds this
    · obtain ⟨a, b, s, f1, f2, f3, f4⟩ := atL_st e2 (by omega) (p : Int) (by omega) (by rw [e3]; omega)
      rw [e4, if_pos ⟨by omega, by omega⟩] at f2
      have f2' := Option.some.inj f2
      subst f2'
      have hat := at_ev T hTl (p : Int)
      rw [if_pos e2, f1] at hat
      obtain ⟨k, hk⟩ := Ev.rounds hat
      obtain ⟨r, m1, rfl, rfl⟩ := atL_mem f1
      have := may_mem e2 (by omega) r m1
      exact ⟨k, _, _, hk, f3, f4, this.1, this.2.2.1⟩
    · have hat := at_ev T hTl (n : Int)
      rw [if_pos e2, atL_no e2 (by omega) (n : Int) (by rw [e3]; omega)] at hat
      exact Ev.rounds hat
    · have hco := count_ev T hTl [c] (by simp)
      rw [if_pos e2] at hco
      have := cnt_num (fun x => over 63 x l1) c T 0 none e2 (by omega) (fun x h1 h2 => by
        have h2' : (x : Int) < n := by rw [← e3]; exact h2
        have := e4 (x : Int)
        rw [if_pos ⟨by omega, h2'⟩] at this
        exact this)
      rw [show cntL [c] 0 T = num (fun x => over 63 x l1) c n from this.trans (by rw [show endOf ((0 : Nat) : Int) T = (n : Int) from e3, Int.toNat_natCast])] at hco
      exact Ev.rounds hco
    · have hco := count_ev T hTl [] (by simp)
      rw [if_pos e2, cnt_all T 0 none e2 (by omega) (by omega), e3] at hco
      exact Ev.rounds hco
  · exact places_long (n : Int) A1 c1 l1 w (by omega) hruns
end Go.Proofs.Ytjgkfnbfjamccaa.Pure
