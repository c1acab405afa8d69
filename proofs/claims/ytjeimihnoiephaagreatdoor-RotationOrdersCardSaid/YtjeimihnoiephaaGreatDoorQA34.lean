/- RotationOrders: the card. For every input the law returns true and each argument reads as before; the listed variables are tied to the program's text. -/
import Derived.Test.YtjeimihnoiephaaGreatDoorQA1
import Derived.Test.YtjeimihnoiephaaGreatDoorQA2
import Derived.Test.YtjeimihnoiephaaGreatDoorQA3
import Derived.Test.YtjeimihnoiephaaGreatDoorQA4
import Derived.Test.YtjeimihnoiephaaGreatDoorQA5
import Derived.Test.YtjeimihnoiephaaGreatDoorQA6
import Derived.Test.YtjeimihnoiephaaGreatDoorQA7
import Derived.Test.YtjeimihnoiephaaGreatDoorQA8
import Derived.Test.YtjeimihnoiephaaGreatDoorQA9
import Derived.Test.YtjeimihnoiephaaGreatDoorQA10
import Derived.Test.YtjeimihnoiephaaGreatDoorQA11
import Derived.Test.YtjeimihnoiephaaGreatDoorQA12
import Derived.Test.YtjeimihnoiephaaGreatDoorQA13
import Derived.Test.YtjeimihnoiephaaGreatDoorQA14
import Derived.Test.YtjeimihnoiephaaGreatDoorQA15
import Derived.Test.YtjeimihnoiephaaGreatDoorQA16
import Derived.Test.YtjeimihnoiephaaGreatDoorQA17
import Derived.Test.YtjeimihnoiephaaGreatDoorQA18
import Derived.Test.YtjeimihnoiephaaGreatDoorQA19
import Derived.Test.YtjeimihnoiephaaGreatDoorQA20
import Derived.Test.YtjeimihnoiephaaGreatDoorQA21
import Derived.Test.YtjeimihnoiephaaGreatDoorQA22
import Derived.Test.YtjeimihnoiephaaGreatDoorQA23
import Derived.Test.YtjeimihnoiephaaGreatDoorQA24
import Derived.Test.YtjeimihnoiephaaGreatDoorQA25
import Derived.Test.YtjeimihnoiephaaGreatDoorQA26
import Derived.Test.YtjeimihnoiephaaGreatDoorQA27
import Derived.Test.YtjeimihnoiephaaGreatDoorQA28
import Derived.Test.YtjeimihnoiephaaGreatDoorQA29
import Derived.Test.YtjeimihnoiephaaGreatDoorQA30
import Derived.Test.YtjeimihnoiephaaGreatDoorQA31
import Derived.Test.YtjeimihnoiephaaGreatDoorQA32
import Derived.Test.YtjeimihnoiephaaGreatDoorQA33
namespace Go.Proofs.YtjeimihnoiephaaGreatDoor
open Go Go.ChangeShapes Go.WideShapes Go.ChangeAt Go.WideMaps Go.WideElems Go.RowKit
set_option maxRecDepth 100000
theorem rotationOrders_lifted (os : Os) (started : os.Started) (H : Type) (enc : TypeId × Value → H) :
    ReturnsInHanded {} Tryz.checked os 3 .any (fun w args => (Rows.rotationOrdersSpec.pre enc Tryz.prog Tryz.f3 [] false w args ∧ laidMetH Tryz.prog laid5 w) ∧ sizedMet enc Tryz.prog Tryz.f3 (OpenSpec.ofChange Rows.rotationOrdersSpec) false w args)
      (Rows.rotationOrdersSpec.post enc Tryz.prog Tryz.f3 false true false false) := by
  refine returnsInHanded_of_change_and (C := Tryz.checked) (X := fun w _ => laidMetH Tryz.prog laid5 w) (fun _ _ _ hh h => h.of_heap hh) own started (by kernel_rfl) Tryz.func3
    (ChangeSpec.witness_shaped (enc := enc) (C := Tryz.checked) (os := os) (X := fun w _ => laidMetH Tryz.prog laid5 w) false (World.doorLaid Tryz.prog 62 os) #[.agg #[.int .i64 0, .int .i64 0, .int .i64 0, .int .i64 0]] 8 rfl (World.shaped_of_RefB (by kernel_rfl) (by kernel_rfl)) (by kernel_rfl) (by kernel_rfl) (by kernel_rfl) (door_met os _)) ?_
  intro W base args ds gs before hval0 hW _ _ hL _
  have hval : ∀ (j : Nat) t v, Tryz.f3.params[j]? = Option.some t → args[j]? = Option.some v → Value.okWide Tryz.prog W .any base t v := hval0
  have hW' := hW
  obtain ⟨p, q, hA0, hV, rfl, hfz, hnd⟩ := hW
  have hA : DataW.TrodAll enc Tryz.prog W 0 (fun _ => true) true Tryz.f3.params.toList args.toList ds p := hA0
  rw [Tryz.params3] at hA hval
  obtain ⟨v0, d0, rfl, rfl, h0⟩ := trodAll_one hA
  obtain ⟨rfl, rfl⟩ := trodVars_none hV
  obtain ⟨cs0, rfl⟩ := agg_of_ok (Or.inr ⟨_, _, Tryz.underlying22⟩) (hval 0 22 v0 rfl rfl)
  obtain ⟨f0, rfl, r0⟩ := open_plain 8 (show leafs Tryz.prog 8 22 = Option.some [.i .i64, .i .i64, .i .i64, .i .i64] by kernel_rfl) h0
  obtain ⟨a, R0_0, ha, E0_0, f⟩ := i64_of f0
  obtain ⟨b, R0_1, hb, E0_1, f⟩ := i64_of f
  obtain ⟨c, R0_2, hc, E0_2, f⟩ := i64_of f
  obtain ⟨d, R0_3, hd, E0_3, f⟩ := i64_of f
  have fe : R0_3 = [] := f
  rw [E0_1, E0_2, E0_3, fe] at E0_0
  rw [agg_cells E0_0] at hW' r0 ⊢
  have g := gd_of_laid hL
  refine (orders17_walk ⟨a, b, c, d⟩ W g).mono fun e W' ⟨he, hw⟩ => ?_
  subst he
  exact ⟨_, rfl, post_of_below hW' (fun _ _ _ => trodAll_mk1 (shut_bool Tryz.underlying4 _)) (fun sp _ => trodAll_mk1 (r0 W' 0 sp true)) (fun _ _ => rfl) rfl hw.below (ok_one (by kernel_rfl) rfl (okWide_bool_mk Tryz.underlying4 _))⟩

theorem rotationOrders_said : Rows.RotationOrdersSaid :=
  OpenClaim.holds_of_wide 3 Tryz.f3 rfl rfl rfl rfl rfl rfl rfl ⟨rfl, rfl, rfl, rfl, rfl⟩ rfl rfl rfl rfl rfl (by kernel_rfl) Tryz.func3 (by kernel_rfl)
    (of_decide_eq_true (by kernel_rfl)) (by unfold Func.isWrapper; first | (rw [if_pos (by decide +kernel)]; kernel_rfl) | (rw [if_neg (by decide +kernel)]; exact ⟨rfl, rfl⟩))
    (fun os started H enc _ => rotationOrders_lifted os started H enc)

theorem rotationOrders_holds : Rows.RotationOrdersCardSaid :=
  Claim7.holds_tied_plain_at .later [] [.data, .data, .data, .sentinel, .sentinel] true _ true
    rotationOrders_said (fun _ h => by cases h) (by kernel_rfl) (fun _ h => by cases h) rotationOrders_row_tie rfl ⟨rfl, rfl⟩ (by kernel_rfl) rfl
    (fun f fn hf hfn => by
      obtain rfl : f = 3 := Option.some.inj ((show Tryz.prog.funcNamed "klippe/klippelaw17.RotationOrders" = Option.some 3 by kernel_rfl).symm.trans hf) |>.symm
      obtain rfl : fn = Tryz.f3 := (Option.some.inj (Tryz.func3.symm.trans hfn)).symm
      exact ⟨by kernel_rfl, fun j t ht => by
        rw [Tryz.params3] at ht
        have hm : t ∈ [22] := by simpa using Array.mem_of_getElem? ht
        have hall : ([22].all fun u => !Tryz.prog.wantsStandIn u) = true := by kernel_rfl
        exact (show Tryz.prog.wantsStandIn t = false by simpa using List.all_eq_true.1 hall t hm)⟩)
    (by kernel_rfl)
#print axioms rotationOrders_holds
end Go.Proofs.YtjeimihnoiephaaGreatDoor
