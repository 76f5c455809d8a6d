import Derived.Test.YtbmhfnncagncmaaGreatDoorOpzK
import Derived.Test.YtbmhfnncagncmaaGreatDoorOprT
namespace Go.Proofs.YtbmhfnncagncmaaGreatDoor.Pure
open Go.RowKit Go.Proofs.YtbmhfnncagncmaaGreatDoorW.PrintWords Go.Proofs.YtbmhfnncagncmaaGreatDoorW.PrintLast Go.Proofs.YtbmhfnncagncmaaGreatDoor.P
set_option linter.unusedVariables false
set_option linter.unusedSimpArgs false
theorem few24_at (l : List ByteArray) : ∀ d i : Nat, 60 - i = d → i ≤ 60 → ∃ b, Ev (fun k => salvorlaw24_few.l0 k l (i : Int)) b ∧ (b = true → l.length ≤ 50 ∧ ∀ j : Nat, i ≤ j → j < l.length → (rdOf ByteArray.empty l j).size ≤ 80) := by
  intro d
  have E : ∀ i : Nat, (¬ i < l.length ∨ ¬ i < 60) → Ev (fun k => salvorlaw24_few.l0 k l (i : Int)) (decide ((l.length : Int) ≤ 50)) := fun i h => by
    refine ⟨2, fun k hk => ?_⟩
    obtain ⟨k, rfl⟩ : ∃ m, k = m + 2 := ⟨k - 2, by omega⟩
    show salvorlaw24_few.l0 (k + 2) l (i : Int) = _
    rw [salvorlaw24_few.l0]
    by_cases h1 : (i : Int) < (l.length : Int)
    · rw [if_pos h1, decide_eq_false (by omega : ¬ (i : Int) < 60), salvorlaw24_few.j1, if_neg (by simp)]
    · rw [if_neg h1, salvorlaw24_few.j1, if_neg (by simp)]
  induction d with
  | zero =>
    intro i hd hi
    refine ⟨_, E i (.inr (by omega)), fun h => ?_⟩
    have h := of_decide_eq_true h
    exact ⟨by omega, fun j h1 h2 => by omega⟩
  | succ d ih =>
    intro i hd hi
    by_cases hlt : i < l.length
    · have e3 : wrap64 ((i : Int) + 1) = ((i + 1 : Nat) : Int) := by unfold wrap64; omega
      have step : ∀ k, salvorlaw24_few.l0 (k + 2) l (i : Int) = if ((rdOf ByteArray.empty l (i : Int)).size : Int) > 80 then some false else salvorlaw24_few.l0 k l ((i + 1 : Nat) : Int) := fun k => by
        rw [salvorlaw24_few.l0, if_pos (by omega), decide_eq_true (by omega : (i : Int) < 60), salvorlaw24_few.j1, if_pos rfl, if_pos (by omega), if_pos (by omega), e3]
      by_cases hs : ((rdOf ByteArray.empty l (i : Int)).size : Int) > 80
      · exact ⟨false, Ev.step2 (f := fun _ => some false) (fun k => by rw [step k, if_pos hs]) (Ev.now _), fun h => by cases h⟩
      · obtain ⟨b, h1, h2⟩ := ih (i + 1) (by omega) (by omega)
        refine ⟨b, Ev.step2 (fun k => by rw [step k, if_neg hs]) h1, fun h => ⟨(h2 h).1, fun j hj1 hj2 => ?_⟩⟩
        by_cases e : j = i
        · subst e; omega
        · exact (h2 h).2 j (by omega) hj2
    · refine ⟨_, E i (.inl hlt), fun h => ?_⟩
      have h := of_decide_eq_true h
      exact ⟨by omega, fun j h1 h2 => by omega⟩
theorem few24_ev (l : List ByteArray) : ∃ b, Ev (fun k => salvorlaw24_few.f k l) b ∧ (b = true → l.length ≤ 50 ∧ ∀ s ∈ l, s.size ≤ 80) := by
  obtain ⟨b, h1, h2⟩ := few24_at l 60 0 rfl (by omega)
  refine ⟨b, h1, fun h => ⟨(h2 h).1, ?_⟩⟩
  intro s hs
  obtain ⟨j, hj, rfl⟩ := List.mem_iff_getElem.1 hs
  have := (h2 h).2 j (by omega) hj
  rw [show rdOf ByteArray.empty l (j : Int) = l[j] from by simp [rdOf, hj]] at this
  exact this
theorem parses_true (A0 : Option Addr) (c0 : Nat) (l : List ByteArray) (hwf : ∀ x_ ∈ l, x_.size ≤ maxLen) (w : World) (hr : Kd.C Kd.string w A0 l.length l) (hc : l.length ≤ c0) (htab : TabAt w) :
    Calls Tryz.prog 3 #[.slice A0 l.length c0] w fun e w' => e = .returned (.bool true) ∧ Below w.heap.size w w' := by
  obtain ⟨b, ⟨K1, e1⟩, h2⟩ := few24_ev l
  cases b with
  | false => exact parses_walk K1 A0 c0 l zeroPL 0 false w hr hc (e1 K1 (Nat.le_refl _)) (fun h => by cases h) (fun h => by cases h) htab
  | true =>
    obtain ⟨h3, h4⟩ := h2 rfl
    obtain ⟨⟨p, rc⟩, ⟨K2, e2⟩, K3, e3⟩ := parse_same l (fun s hs => Nat.le_trans (h4 s hs) (by omega))
    exact parses_walk (K1 + K2 + K3) A0 c0 l p rc true w hr hc (e1 _ (by omega)) (fun _ => e2 _ (by omega)) (fun _ => e3 _ (by omega)) htab
end Go.Proofs.YtbmhfnncagncmaaGreatDoor.Pure
