/- VectorLines: the card. For every input the law returns true and each argument reads as before; the listed variables are tied to the program's text. -/
import Derived.Test.YtglppcmegocphaaGreatDoorQW1
import Derived.Test.YtglppcmegocphaaGreatDoorQW2
import Derived.Test.YtglppcmegocphaaGreatDoorQW3
import Derived.Test.YtglppcmegocphaaGreatDoorQW4
import Derived.Test.YtglppcmegocphaaGreatDoorQW5
import Derived.Test.YtglppcmegocphaaGreatDoorQW6
import Derived.Test.YtglppcmegocphaaGreatDoorQW7
import Derived.Test.YtglppcmegocphaaGreatDoorQW8
import Derived.Test.YtglppcmegocphaaGreatDoorQW9
import Derived.Test.YtglppcmegocphaaGreatDoorQW10
import Derived.Test.YtglppcmegocphaaGreatDoorQW11
import Derived.Test.YtglppcmegocphaaGreatDoorQW12
import Derived.Test.YtglppcmegocphaaGreatDoorQW13
import Derived.Test.YtglppcmegocphaaGreatDoorQW14
import Derived.Test.YtglppcmegocphaaGreatDoorQW15
import Derived.Test.YtglppcmegocphaaGreatDoorQW16
import Derived.Test.YtglppcmegocphaaGreatDoorQW17
import Derived.Test.YtglppcmegocphaaGreatDoorQW18
import Derived.Test.YtglppcmegocphaaGreatDoorQW19
import Derived.Test.YtglppcmegocphaaGreatDoorQW20
import Derived.Test.YtglppcmegocphaaGreatDoorQW21
import Derived.Test.YtglppcmegocphaaGreatDoorQW22
import Derived.Test.YtglppcmegocphaaGreatDoorQW23
import Derived.Test.YtglppcmegocphaaGreatDoorQW24
import Derived.Test.YtglppcmegocphaaGreatDoorQW25
import Derived.Test.YtglppcmegocphaaGreatDoorQW26
import Derived.Test.YtglppcmegocphaaGreatDoorQW27
import Derived.Test.YtglppcmegocphaaGreatDoorQW28
import Derived.Test.YtglppcmegocphaaGreatDoorQW29
import Derived.Test.YtglppcmegocphaaGreatDoorQW30
import Derived.Test.YtglppcmegocphaaGreatDoorQW31
import Derived.Test.YtglppcmegocphaaGreatDoorQW32
import Derived.Test.YtglppcmegocphaaGreatDoorQW33
import Derived.Test.YtglppcmegocphaaGreatDoorQW34
namespace Go.Proofs.YtglppcmegocphaaGreatDoor
open Go Go.ChangeShapes Go.WideShapes Go.ChangeAt Go.WideMaps Go.WideElems Go.RowKit
set_option maxRecDepth 100000
theorem vectorLines_lifted (os : Os) (started : os.Started) (H : Type) (enc : TypeId × Value → H) :
    ReturnsInHanded {} Tryz.checked os 7 .any (fun w args => (Rows.vectorLinesSpec.pre enc Tryz.prog Tryz.f7 [] false w args ∧ laidMetH Tryz.prog laid5 w) ∧ sizedMet enc Tryz.prog Tryz.f7 (OpenSpec.ofChange Rows.vectorLinesSpec) false w args)
      (Rows.vectorLinesSpec.post enc Tryz.prog Tryz.f7 false true false false) := by
  refine returnsInHanded_of_change_and (C := Tryz.checked) (X := fun w _ => laidMetH Tryz.prog laid5 w) (fun _ _ _ hh h => h.of_heap hh) own started (by kernel_rfl) Tryz.func7
    (ChangeSpec.witness_shaped (enc := enc) (C := Tryz.checked) (os := os) (X := fun w _ => laidMetH Tryz.prog laid5 w) false (World.doorLaid Tryz.prog 62 os) #[.agg #[.int .i16 0, .int .u8 0, .int .i16 0, .int .u8 0, .int .i16 0, .int .u8 0, .int .i16 0, .int .u8 0, .int .i16 0, .int .u8 0, .int .i16 0, .int .u8 0], .agg #[.int .i16 0, .int .u8 0, .int .i16 0, .int .u8 0, .int .i16 0, .int .u8 0, .int .i16 0, .int .u8 0, .int .i16 0, .int .u8 0, .int .i16 0, .int .u8 0]] 8 rfl (World.shaped_of_RefB (by kernel_rfl) (by kernel_rfl)) (by kernel_rfl) (by kernel_rfl) (by kernel_rfl) (door_met os _)) ?_
  intro W base args ds gs before hval0 hW _ _ hL _
  have hval : ∀ (j : Nat) t v, Tryz.f7.params[j]? = Option.some t → args[j]? = Option.some v → Value.okWide Tryz.prog W .any base t v := hval0
  have hW' := hW
  obtain ⟨p, q, hA0, hV, rfl, hfz, hnd⟩ := hW
  have hA : DataW.TrodAll enc Tryz.prog W 0 (fun _ => true) true Tryz.f7.params.toList args.toList ds p := hA0
  rw [Tryz.params7] at hA hval
  obtain ⟨v0, v1, d0, d1, p0, p1, rfl, rfl, rfl, h0, h1⟩ := trodAll_two hA
  obtain ⟨rfl, rfl⟩ := trodVars_none hV
  obtain ⟨cs0, rfl⟩ := agg_of_ok (Or.inl ⟨_, Tryz.underlying44⟩) (hval 0 44 v0 rfl rfl)
  obtain ⟨f0, rfl, r0⟩ := open_plain 8 (show leafs Tryz.prog 8 44 = Option.some [.i .i16, .i .u8, .i .i16, .i .u8, .i .i16, .i .u8, .i .i16, .i .u8, .i .i16, .i .u8, .i .i16, .i .u8] by kernel_rfl) h0
  obtain ⟨cs1, rfl⟩ := agg_of_ok (Or.inl ⟨_, Tryz.underlying44⟩) (hval 1 44 v1 rfl rfl)
  obtain ⟨f1, rfl, r1⟩ := open_plain 8 (show leafs Tryz.prog 8 44 = Option.some [.i .i16, .i .u8, .i .i16, .i .u8, .i .i16, .i .u8, .i .i16, .i .u8, .i .i16, .i .u8, .i .i16, .i .u8] by kernel_rfl) h1
  obtain ⟨p, R0_0, hp, E0_0, f⟩ := pla_of f0
  obtain ⟨q, R0_1, hq, E0_1, f⟩ := pla_of f
  have fe : R0_1 = [] := f
  rw [E0_1, fe] at E0_0
  rw [agg_cells E0_0] at hW' r0 ⊢
  obtain ⟨r, R1_0, hr, E1_0, f⟩ := pla_of f1
  obtain ⟨s, R1_1, hs, E1_1, f⟩ := pla_of f
  have fe : R1_1 = [] := f
  rw [E1_1, fe] at E1_0
  rw [agg_cells E1_0] at hW' r1 ⊢
  have g := gd_of_laid hL
  refine (lines_walk p q r s W g hp hq hr hs).mono fun e W' ⟨he, hw⟩ => ?_
  subst he
  exact ⟨_, rfl, post_of_below hW' (fun _ _ _ => trodAll_mk1 (shut_bool Tryz.underlying4 _)) (fun sp _ => trodAll_mk2 (r0 W' 0 sp true) (r1 W' 0 sp true)) (fun _ _ => rfl) rfl hw.below (ok_one (by kernel_rfl) rfl (okWide_bool_mk Tryz.underlying4 _))⟩

theorem vectorLines_said : Rows.VectorLinesSaid :=
  OpenClaim.holds_of_wide 7 Tryz.f7 rfl rfl rfl rfl rfl rfl rfl ⟨rfl, rfl, rfl, rfl, rfl⟩ rfl rfl rfl rfl rfl (by kernel_rfl) Tryz.func7 (by kernel_rfl)
    (of_decide_eq_true (by kernel_rfl)) (by unfold Func.isWrapper; first | (rw [if_pos (by decide +kernel)]; kernel_rfl) | (rw [if_neg (by decide +kernel)]; exact ⟨rfl, rfl⟩))
    (fun os started H enc _ => vectorLines_lifted os started H enc)

theorem vectorLines_holds : Rows.VectorLinesCardSaid :=
  Claim7.holds_tied_plain_at .later [] [.data, .data, .data, .sentinel, .sentinel] true _ true
    vectorLines_said (fun _ h => by cases h) (by kernel_rfl) (fun _ h => by cases h) vectorLines_row_tie rfl ⟨rfl, rfl⟩ (by kernel_rfl) rfl
    (fun f fn hf hfn => by
      obtain rfl : f = 7 := Option.some.inj ((show Tryz.prog.funcNamed "klippe/klippelaw05.VectorLines" = Option.some 7 by kernel_rfl).symm.trans hf) |>.symm
      obtain rfl : fn = Tryz.f7 := (Option.some.inj (Tryz.func7.symm.trans hfn)).symm
      exact ⟨by kernel_rfl, fun j t ht => by
        rw [Tryz.params7] at ht
        have hm : t ∈ [44, 44] := by simpa using Array.mem_of_getElem? ht
        have hall : ([44, 44].all fun u => !Tryz.prog.wantsStandIn u) = true := by kernel_rfl
        exact (show Tryz.prog.wantsStandIn t = false by simpa using List.all_eq_true.1 hall t hm)⟩)
    (by kernel_rfl)
#print axioms vectorLines_holds
end Go.Proofs.YtglppcmegocphaaGreatDoor
