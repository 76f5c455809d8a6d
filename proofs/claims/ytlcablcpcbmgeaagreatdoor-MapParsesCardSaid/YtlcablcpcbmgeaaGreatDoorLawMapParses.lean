/- Laid by a program of this session's own (wip/lawrow.py). The row of the law MapParses: for every input it returns true, and its arguments read as they did; without conditions of our own. -/
import Derived.Test.YtlcablcpcbmgeaaGreatDoorNumT
import Derived.Test.YtlcablcpcbmgeaaGreatDoorRows
import Derived.Test.YtlcablcpcbmgeaaGreatDoorCards
import Derived.Test.YtlcablcpcbmgeaaGreatDoorTie
import Derived.LaidMore
import Derived.Stop.Joined
import Derived.Lib.LaidTab
import Derived.Stop.LaidErr
import Derived.SevenTiedAt
import Derived.Test.YtlcablcpcbmgeaaGreatDoorTab
import Derived.Test.YtlcablcpcbmgeaaGreatDoorShelf
import Derived.Deep.DeepHandedRow
import Derived.Lay
import Derived.Test.YtlcablcpcbmgeaaGreatDoorPx36
import Derived.Test.YtlcablcpcbmgeaaGreatDoorPureMapParses
import Derived.Test.YtlcablcpcbmgeaaGreatDoorOpen
import Derived.WalkKit
import Derived.ProofKit
import Derived.OpenShut
import Derived.ShutString
import Derived.ChangeOld
import Derived.Below
import Derived.SizedLaws
namespace Go.Proofs.YtlcablcpcbmgeaaGreatDoor.mapParses
open Go.ChangeShapes Go.WideShapes Go.ChangeAt Go.RowKit Go.Proofs.YtlcablcpcbmgeaaGreatDoorW.PrintWords Go.Proofs.YtlcablcpcbmgeaaGreatDoorW.PrintLast Go.Proofs.YtlcablcpcbmgeaaGreatDoor.P Go.Proofs.YtlcablcpcbmgeaaGreatDoor.Open
open Go.ChangeMaps (open_string shut_string)
set_option linter.unusedVariables false
theorem own : ownKnob Tryz.prog.godebug = none := by kernel_rfl
theorem laidOut : laidOutB Tryz.prog = true := by kernel_rfl
set_option maxRecDepth 100000 in
theorem lifted (os : Os) (started : os.Started) (H : Type) (enc : TypeId × Value → H) (F : Stop.Interp) :
    ReturnsInHanded {} Tryz.checked os 5 .any ((OpenSpec.ofChange Rows.mapParsesSpec).preRow enc Tryz.prog Tryz.f5 Rows.mapParsesRow.domain false Rows.mapParsesRow.laid) (((OpenSpec.ofChange Rows.mapParsesSpec).at F).post enc Tryz.prog Tryz.f5 false true false false) := by
  refine returnsInHanded_of_row (C := Tryz.checked) (s := OpenSpec.ofChange Rows.mapParsesSpec) own started (by kernel_rfl) Tryz.func5
    (ChangeSpec.witness_shaped (enc := enc) (C := Tryz.checked) (os := os) (X := fun w _ => laidMetH Tryz.prog Rows.mapParsesRow.laid w) false (World.laidAll Tryz.prog os Rows.mapParsesRow.laid) #[.string ByteArray.empty] 8 (World.laidAll_os _ _ _) (World.shaped_of_ZipB (by kernel_rfl) (by kernel_rfl)) (by kernel_rfl) (by kernel_rfl) (by kernel_rfl) (by rw [MakeChecks.laidMetH_plain _ _ _ (by kernel_rfl)]; exact laidMet_laidAll _ (by kernel_rfl) (by kernel_rfl))) ?_
  intro W base args ds gs before hval0 hW _ _ hsz0 hLt hL _
  have hval : ∀ (j : Nat) t v, Tryz.f5.params[j]? = some t → args[j]? = some v → Value.okWide Tryz.prog W .any base t v := hval0
  have hW' := hW
  obtain ⟨p, q, hA0, hV, rfl, hfz, hnd⟩ := hW
  have hA : DataW.TrodAll enc Tryz.prog W 0 (fun _ => true) true Tryz.f5.params.toList args.toList ds p := hA0
  rw [Tryz.params5] at hA hval
  obtain ⟨v0, vs0, d0, ds0, p0, q0, hargs, rfl, rfl, h0, r0⟩ := trodAll_cons hA
  obtain ⟨rfl, rfl, rfl⟩ := trodAll_nil r0
  obtain rfl : args = #[v0] := by cases args; simp_all
  obtain ⟨rfl, rfl⟩ := trodVars_none hV
  obtain ⟨a0, rfl, rfl, rfl, y0⟩ := open_string Tryz.underlying9 (hval 0 9 v0 rfl rfl) h0
  clear hA0 hval0
  obtain ⟨kk, hp⟩ := Pure.MapParses a0 y0
  refine (salvorlaw17_MapParses.calls kk a0 true W  hp (Num.table hLt hL) rfl).mono fun e W' ⟨he, bel⟩ => ?_
  subst he
  exact ⟨_, rfl, _, _, _, [], _, [], hW', trodAll_mk1 (shut_bool Tryz.underlying4 _), (trodAll_cons_mk (shut_string Tryz.underlying9 y0) trodAll_mk0), rfl, bel.frame _, fun h => by cases h⟩
theorem over : Rows.mapParsesRow.holds Tryz.pinned (OpenSpec.ofChange Rows.mapParsesSpec) :=
  OpenClaim.holds_of_cond 5 Tryz.f5 rfl rfl rfl rfl rfl rfl rfl ⟨rfl, rfl, rfl, rfl, rfl⟩ rfl rfl rfl rfl rfl (by kernel_rfl) Tryz.func5 (by kernel_rfl)
    (of_decide_eq_true (by kernel_rfl)) (by unfold Func.isWrapper; first | (rw [if_pos (by decide +kernel)]; kernel_rfl) | (rw [if_neg (by decide +kernel)]; exact ⟨rfl, rfl⟩))
    (fun os started H enc _ F => by rw [OpenClaim.pre_eq_preRow]; exact lifted os started H enc F)
theorem proved : Rows.MapParsesSaid := over
theorem card : Rows.MapParsesCardSaid :=
  Claim7.holds_tied_plain_at .later [] _ _ _ _ over (fun _ h => by cases h) (by kernel_rfl) (fun _ h => by cases h) mapParses_row_tie rfl ⟨rfl, rfl⟩ (by kernel_rfl) rfl
    (fun f fn hf hfn => by
      obtain rfl : f = 5 := Option.some.inj ((show Tryz.prog.funcNamed "salvor/salvorlaw17.MapParses" = some 5 by kernel_rfl).symm.trans hf) |>.symm
      obtain rfl : fn = Tryz.f5 := (Option.some.inj (Tryz.func5.symm.trans hfn)).symm
      exact ⟨by kernel_rfl, fun j t ht => by
        rw [Tryz.params5] at ht
        have hm : t ∈ [9] := by simpa using Array.mem_of_getElem? ht
        have hall : ([9].all fun u => !Tryz.prog.wantsStandIn u) = true := by kernel_rfl
        exact (show Tryz.prog.wantsStandIn t = false by simpa using List.all_eq_true.1 hall t hm)⟩)
    (by kernel_rfl)
end Go.Proofs.YtlcablcpcbmgeaaGreatDoor.mapParses
namespace Go.Proofs.YtlcablcpcbmgeaaGreatDoor
/-- The row, under a short name, for the claim. -/
theorem mapParses_holds : Rows.MapParsesCardSaid := mapParses.card
end Go.Proofs.YtlcablcpcbmgeaaGreatDoor
#print axioms Go.Proofs.YtlcablcpcbmgeaaGreatDoor.mapParses_holds