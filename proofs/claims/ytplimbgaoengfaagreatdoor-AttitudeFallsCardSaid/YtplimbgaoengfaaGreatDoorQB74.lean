/- AttitudeFalls: the card. For every input the law returns true and each argument reads as before; the listed variables are tied to the program's text. -/
import Derived.Test.YtplimbgaoengfaaGreatDoorQB1
import Derived.Test.YtplimbgaoengfaaGreatDoorQB2
import Derived.Test.YtplimbgaoengfaaGreatDoorQB3
import Derived.Test.YtplimbgaoengfaaGreatDoorQB4
import Derived.Test.YtplimbgaoengfaaGreatDoorQB5
import Derived.Test.YtplimbgaoengfaaGreatDoorQB6
import Derived.Test.YtplimbgaoengfaaGreatDoorQB7
import Derived.Test.YtplimbgaoengfaaGreatDoorQB8
import Derived.Test.YtplimbgaoengfaaGreatDoorQB9
import Derived.Test.YtplimbgaoengfaaGreatDoorQB10
import Derived.Test.YtplimbgaoengfaaGreatDoorQB11
import Derived.Test.YtplimbgaoengfaaGreatDoorQB12
import Derived.Test.YtplimbgaoengfaaGreatDoorQB13
import Derived.Test.YtplimbgaoengfaaGreatDoorQB14
import Derived.Test.YtplimbgaoengfaaGreatDoorQB15
import Derived.Test.YtplimbgaoengfaaGreatDoorQB16
import Derived.Test.YtplimbgaoengfaaGreatDoorQB17
import Derived.Test.YtplimbgaoengfaaGreatDoorQB18
import Derived.Test.YtplimbgaoengfaaGreatDoorQB19
import Derived.Test.YtplimbgaoengfaaGreatDoorQB20
import Derived.Test.YtplimbgaoengfaaGreatDoorQB21
import Derived.Test.YtplimbgaoengfaaGreatDoorQB22
import Derived.Test.YtplimbgaoengfaaGreatDoorQB23
import Derived.Test.YtplimbgaoengfaaGreatDoorQB24
import Derived.Test.YtplimbgaoengfaaGreatDoorQB25
import Derived.Test.YtplimbgaoengfaaGreatDoorQB26
import Derived.Test.YtplimbgaoengfaaGreatDoorQB27
import Derived.Test.YtplimbgaoengfaaGreatDoorQB28
import Derived.Test.YtplimbgaoengfaaGreatDoorQB29
import Derived.Test.YtplimbgaoengfaaGreatDoorQB30
import Derived.Test.YtplimbgaoengfaaGreatDoorQB31
import Derived.Test.YtplimbgaoengfaaGreatDoorQB33
import Derived.Test.YtplimbgaoengfaaGreatDoorQB35
import Derived.Test.YtplimbgaoengfaaGreatDoorQB36
import Derived.Test.YtplimbgaoengfaaGreatDoorQB37
import Derived.Test.YtplimbgaoengfaaGreatDoorQB39
import Derived.Test.YtplimbgaoengfaaGreatDoorQB50
import Derived.Test.YtplimbgaoengfaaGreatDoorQB51
import Derived.Test.YtplimbgaoengfaaGreatDoorQB58
import Derived.Test.YtplimbgaoengfaaGreatDoorQB59
import Derived.Test.YtplimbgaoengfaaGreatDoorQB64
import Derived.Test.YtplimbgaoengfaaGreatDoorQB68
import Derived.Test.YtplimbgaoengfaaGreatDoorQB69
import Derived.Test.YtplimbgaoengfaaGreatDoorQB70
import Derived.Test.YtplimbgaoengfaaGreatDoorQB71
import Derived.Test.YtplimbgaoengfaaGreatDoorQB72
import Derived.Test.YtplimbgaoengfaaGreatDoorQB73
namespace Go.Proofs.YtplimbgaoengfaaGreatDoor
open Go Go.ChangeShapes Go.WideShapes Go.ChangeAt Go.WideMaps Go.WideElems Go.RowKit
set_option maxRecDepth 100000
theorem attitudeFalls_lifted (os : Os) (started : os.Started) (H : Type) (enc : TypeId × Value → H) :
    ReturnsInHanded {} Tryz.checked os 7 .any (fun w args => (Rows.attitudeFallsSpec.pre enc Tryz.prog Tryz.f7 [] false w args ∧ laidMetH Tryz.prog laid5 w) ∧ sizedMet enc Tryz.prog Tryz.f7 (OpenSpec.ofChange Rows.attitudeFallsSpec) false w args)
      (Rows.attitudeFallsSpec.post enc Tryz.prog Tryz.f7 false true false false) := by
  refine returnsInHanded_of_change_and (C := Tryz.checked) (X := fun w _ => laidMetH Tryz.prog laid5 w) (fun _ _ _ hh h => h.of_heap hh) own started (by kernel_rfl) Tryz.func7
    (ChangeSpec.witness_shaped (enc := enc) (C := Tryz.checked) (os := os) (X := fun w _ => laidMetH Tryz.prog laid5 w) false (World.doorLaid Tryz.prog 62 os) #[.agg #[.string ⟨#[]⟩, .string ⟨#[]⟩, .string ⟨#[]⟩], .agg #[.string ⟨#[]⟩, .string ⟨#[]⟩, .string ⟨#[]⟩], .agg #[.string ⟨#[]⟩, .string ⟨#[]⟩, .string ⟨#[]⟩]] 8 rfl (World.shaped_of_RefB (by kernel_rfl) (by kernel_rfl)) (by kernel_rfl) (by kernel_rfl) (by kernel_rfl) (door_met os _)) ?_
  intro W base args ds gs before hval0 hW _ _ hL _
  have hval : ∀ (j : Nat) t v, Tryz.f7.params[j]? = Option.some t → args[j]? = Option.some v → Value.okWide Tryz.prog W .any base t v := hval0
  have hW' := hW
  obtain ⟨p, q, hA0, hV, rfl, hfz, hnd⟩ := hW
  have hA : DataW.TrodAll enc Tryz.prog W 0 (fun _ => true) true Tryz.f7.params.toList args.toList ds p := hA0
  rw [Tryz.params7] at hA hval
  obtain ⟨v0, v1, v2, d0, d1, d2, p0, p1, p2, rfl, rfl, rfl, h0, h1, h2⟩ := trodAll_three hA
  obtain ⟨rfl, rfl⟩ := trodVars_none hV
  obtain ⟨cs0, rfl⟩ := agg_of_ok (Or.inl ⟨_, Tryz.underlying37⟩) (hval 0 37 v0 rfl rfl)
  obtain ⟨f0, rfl, r0⟩ := open_plain 8 (show leafs Tryz.prog 8 37 = Option.some [.s, .s, .s] by kernel_rfl) h0
  obtain ⟨cs1, rfl⟩ := agg_of_ok (Or.inl ⟨_, Tryz.underlying55⟩) (hval 1 55 v1 rfl rfl)
  obtain ⟨f1, rfl, r1⟩ := open_plain 8 (show leafs Tryz.prog 8 55 = Option.some [.s, .s, .s] by kernel_rfl) h1
  obtain ⟨cs2, rfl⟩ := agg_of_ok (Or.inl ⟨_, Tryz.underlying55⟩) (hval 2 55 v2 rfl rfl)
  obtain ⟨f2, rfl, r2⟩ := open_plain 8 (show leafs Tryz.prog 8 55 = Option.some [.s, .s, .s] by kernel_rfl) h2
  obtain ⟨x0, R0_0, hx0, E0_0, f⟩ := str_of f0
  obtain ⟨x1, R0_1, hx1, E0_1, f⟩ := str_of f
  obtain ⟨x2, R0_2, hx2, E0_2, f⟩ := str_of f
  have fe : R0_2 = [] := f
  rw [E0_1, E0_2, fe] at E0_0
  rw [agg_cells E0_0] at hW' r0 ⊢
  obtain ⟨y0, R1_0, hy0, E1_0, f⟩ := str_of f1
  obtain ⟨y1, R1_1, hy1, E1_1, f⟩ := str_of f
  obtain ⟨y2, R1_2, hy2, E1_2, f⟩ := str_of f
  have fe : R1_2 = [] := f
  rw [E1_1, E1_2, fe] at E1_0
  rw [agg_cells E1_0] at hW' r1 ⊢
  obtain ⟨z0, R2_0, hz0, E2_0, f⟩ := str_of f2
  obtain ⟨z1, R2_1, hz1, E2_1, f⟩ := str_of f
  obtain ⟨z2, R2_2, hz2, E2_2, f⟩ := str_of f
  have fe : R2_2 = [] := f
  rw [E2_1, E2_2, fe] at E2_0
  rw [agg_cells E2_0] at hW' r2 ⊢
  have g := gd_of_laid hL
  refine (falls15_walk ⟨x0, x1, x2⟩ ⟨y0, y1⟩ ⟨z0, z1⟩ y2 z2 W g).mono fun e W' ⟨he, hw⟩ => ?_
  subst he
  exact ⟨_, rfl, post_of_below hW' (fun _ _ _ => trodAll_mk1 (shut_bool Tryz.underlying4 _)) (fun sp _ => trodAll_mk3 (r0 W' 0 sp true) (r1 W' 0 sp true) (r2 W' 0 sp true)) (fun _ _ => rfl) rfl hw.below (ok_one (by kernel_rfl) rfl (okWide_bool_mk Tryz.underlying4 _))⟩

theorem attitudeFalls_said : Rows.AttitudeFallsSaid :=
  OpenClaim.holds_of_wide 7 Tryz.f7 rfl rfl rfl rfl rfl rfl rfl ⟨rfl, rfl, rfl, rfl, rfl⟩ rfl rfl rfl rfl rfl (by kernel_rfl) Tryz.func7 (by kernel_rfl)
    (of_decide_eq_true (by kernel_rfl)) (by unfold Func.isWrapper; first | (rw [if_pos (by decide +kernel)]; kernel_rfl) | (rw [if_neg (by decide +kernel)]; exact ⟨rfl, rfl⟩))
    (fun os started H enc _ => attitudeFalls_lifted os started H enc)

theorem attitudeFalls_holds : Rows.AttitudeFallsCardSaid :=
  Claim7.holds_tied_plain_at .later [] [.data, .data, .data, .sentinel, .sentinel] true _ true
    attitudeFalls_said (fun _ h => by cases h) (by kernel_rfl) (fun _ h => by cases h) attitudeFalls_row_tie rfl ⟨rfl, rfl⟩ (by kernel_rfl) rfl
    (fun f fn hf hfn => by
      obtain rfl : f = 7 := Option.some.inj ((show Tryz.prog.funcNamed "klippe/klippelaw15.AttitudeFalls" = Option.some 7 by kernel_rfl).symm.trans hf) |>.symm
      obtain rfl : fn = Tryz.f7 := (Option.some.inj (Tryz.func7.symm.trans hfn)).symm
      exact ⟨by kernel_rfl, fun j t ht => by
        rw [Tryz.params7] at ht
        have hm : t ∈ [37, 55, 55] := by simpa using Array.mem_of_getElem? ht
        have hall : ([37, 55, 55].all fun u => !Tryz.prog.wantsStandIn u) = true := by kernel_rfl
        exact (show Tryz.prog.wantsStandIn t = false by simpa using List.all_eq_true.1 hall t hm)⟩)
    (by kernel_rfl)
#print axioms attitudeFalls_holds
end Go.Proofs.YtplimbgaoengfaaGreatDoor
