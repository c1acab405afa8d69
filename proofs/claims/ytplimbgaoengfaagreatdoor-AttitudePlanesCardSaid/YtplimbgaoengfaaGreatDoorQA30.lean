/- AttitudePlanes: the card. For every input the law returns true and each argument reads as before; the listed variables are tied to the program's text. -/
import Derived.Test.YtplimbgaoengfaaGreatDoorQA1
import Derived.Test.YtplimbgaoengfaaGreatDoorQA2
import Derived.Test.YtplimbgaoengfaaGreatDoorQA3
import Derived.Test.YtplimbgaoengfaaGreatDoorQA4
import Derived.Test.YtplimbgaoengfaaGreatDoorQA5
import Derived.Test.YtplimbgaoengfaaGreatDoorQA6
import Derived.Test.YtplimbgaoengfaaGreatDoorQA7
import Derived.Test.YtplimbgaoengfaaGreatDoorQA8
import Derived.Test.YtplimbgaoengfaaGreatDoorQA9
import Derived.Test.YtplimbgaoengfaaGreatDoorQA10
import Derived.Test.YtplimbgaoengfaaGreatDoorQA11
import Derived.Test.YtplimbgaoengfaaGreatDoorQA12
import Derived.Test.YtplimbgaoengfaaGreatDoorQA13
import Derived.Test.YtplimbgaoengfaaGreatDoorQA14
import Derived.Test.YtplimbgaoengfaaGreatDoorQA15
import Derived.Test.YtplimbgaoengfaaGreatDoorQA16
import Derived.Test.YtplimbgaoengfaaGreatDoorQA17
import Derived.Test.YtplimbgaoengfaaGreatDoorQA18
import Derived.Test.YtplimbgaoengfaaGreatDoorQA19
import Derived.Test.YtplimbgaoengfaaGreatDoorQA20
import Derived.Test.YtplimbgaoengfaaGreatDoorQA21
import Derived.Test.YtplimbgaoengfaaGreatDoorQA22
import Derived.Test.YtplimbgaoengfaaGreatDoorQA23
import Derived.Test.YtplimbgaoengfaaGreatDoorQA24
import Derived.Test.YtplimbgaoengfaaGreatDoorQA25
import Derived.Test.YtplimbgaoengfaaGreatDoorQA26
import Derived.Test.YtplimbgaoengfaaGreatDoorQA27
import Derived.Test.YtplimbgaoengfaaGreatDoorQA28
import Derived.Test.YtplimbgaoengfaaGreatDoorQA29
namespace Go.Proofs.YtplimbgaoengfaaGreatDoor
open Go Go.ChangeShapes Go.WideShapes Go.ChangeAt Go.WideMaps Go.WideElems Go.RowKit
set_option maxRecDepth 100000
theorem attitudePlanes_lifted (os : Os) (started : os.Started) (H : Type) (enc : TypeId × Value → H) :
    ReturnsInHanded {} Tryz.checked os 5 .any (fun w args => (Rows.attitudePlanesSpec.pre enc Tryz.prog Tryz.f5 [] false w args ∧ laidMetH Tryz.prog laid5 w) ∧ sizedMet enc Tryz.prog Tryz.f5 (OpenSpec.ofChange Rows.attitudePlanesSpec) false w args)
      (Rows.attitudePlanesSpec.post enc Tryz.prog Tryz.f5 false true false false) := by
  refine returnsInHanded_of_change_and (C := Tryz.checked) (X := fun w _ => laidMetH Tryz.prog laid5 w) (fun _ _ _ hh h => h.of_heap hh) own started (by kernel_rfl) Tryz.func5
    (ChangeSpec.witness_shaped (enc := enc) (C := Tryz.checked) (os := os) (X := fun w _ => laidMetH Tryz.prog laid5 w) false (World.doorLaid Tryz.prog 62 os) #[.agg #[.string ⟨#[]⟩, .string ⟨#[]⟩, .string ⟨#[]⟩]] 8 rfl (World.shaped_of_RefB (by kernel_rfl) (by kernel_rfl)) (by kernel_rfl) (by kernel_rfl) (by kernel_rfl) (door_met os _)) ?_
  intro W base args ds gs before hval0 hW _ _ hL _
  have hval : ∀ (j : Nat) t v, Tryz.f5.params[j]? = Option.some t → args[j]? = Option.some v → Value.okWide Tryz.prog W .any base t v := hval0
  have hW' := hW
  obtain ⟨p, q, hA0, hV, rfl, hfz, hnd⟩ := hW
  have hA : DataW.TrodAll enc Tryz.prog W 0 (fun _ => true) true Tryz.f5.params.toList args.toList ds p := hA0
  rw [Tryz.params5] at hA hval
  obtain ⟨v0, d0, rfl, rfl, h0⟩ := trodAll_one hA
  obtain ⟨rfl, rfl⟩ := trodVars_none hV
  obtain ⟨cs0, rfl⟩ := agg_of_ok (Or.inl ⟨_, Tryz.underlying37⟩) (hval 0 37 v0 rfl rfl)
  obtain ⟨f0, rfl, r0⟩ := open_plain 8 (show leafs Tryz.prog 8 37 = Option.some [.s, .s, .s] by kernel_rfl) h0
  obtain ⟨x0, R0_0, hx0, E0_0, f⟩ := str_of f0
  obtain ⟨x1, R0_1, hx1, E0_1, f⟩ := str_of f
  obtain ⟨x2, R0_2, hx2, E0_2, f⟩ := str_of f
  have fe : R0_2 = [] := f
  rw [E0_1, E0_2, fe] at E0_0
  rw [agg_cells E0_0] at hW' r0 ⊢
  have g := gd_of_laid hL
  refine (planes15_walk ⟨x0, x1, x2⟩ W g).mono fun e W' ⟨he, hw⟩ => ?_
  subst he
  exact ⟨_, rfl, post_of_below hW' (fun _ _ _ => trodAll_mk1 (shut_bool Tryz.underlying4 _)) (fun sp _ => trodAll_mk1 (r0 W' 0 sp true)) (fun _ _ => rfl) rfl hw.below (ok_one (by kernel_rfl) rfl (okWide_bool_mk Tryz.underlying4 _))⟩

theorem attitudePlanes_said : Rows.AttitudePlanesSaid :=
  OpenClaim.holds_of_wide 5 Tryz.f5 rfl rfl rfl rfl rfl rfl rfl ⟨rfl, rfl, rfl, rfl, rfl⟩ rfl rfl rfl rfl rfl (by kernel_rfl) Tryz.func5 (by kernel_rfl)
    (of_decide_eq_true (by kernel_rfl)) (by unfold Func.isWrapper; first | (rw [if_pos (by decide +kernel)]; kernel_rfl) | (rw [if_neg (by decide +kernel)]; exact ⟨rfl, rfl⟩))
    (fun os started H enc _ => attitudePlanes_lifted os started H enc)

theorem attitudePlanes_holds : Rows.AttitudePlanesCardSaid :=
  Claim7.holds_tied_plain_at .later [] [.data, .data, .data, .sentinel, .sentinel] true _ true
    attitudePlanes_said (fun _ h => by cases h) (by kernel_rfl) (fun _ h => by cases h) attitudePlanes_row_tie rfl ⟨rfl, rfl⟩ (by kernel_rfl) rfl
    (fun f fn hf hfn => by
      obtain rfl : f = 5 := Option.some.inj ((show Tryz.prog.funcNamed "klippe/klippelaw15.AttitudePlanes" = Option.some 5 by kernel_rfl).symm.trans hf) |>.symm
      obtain rfl : fn = Tryz.f5 := (Option.some.inj (Tryz.func5.symm.trans hfn)).symm
      exact ⟨by kernel_rfl, fun j t ht => by
        rw [Tryz.params5] at ht
        have hm : t ∈ [37] := by simpa using Array.mem_of_getElem? ht
        have hall : ([37].all fun u => !Tryz.prog.wantsStandIn u) = true := by kernel_rfl
        exact (show Tryz.prog.wantsStandIn t = false by simpa using List.all_eq_true.1 hall t hm)⟩)
    (by kernel_rfl)
#print axioms attitudePlanes_holds
end Go.Proofs.YtplimbgaoengfaaGreatDoor
