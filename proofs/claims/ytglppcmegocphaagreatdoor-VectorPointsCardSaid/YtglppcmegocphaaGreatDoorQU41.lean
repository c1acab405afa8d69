/- VectorPoints: the card. For every input the law returns true and each argument reads as before; the listed variables are tied to the program's text. -/
import Derived.Test.YtglppcmegocphaaGreatDoorQU1
import Derived.Test.YtglppcmegocphaaGreatDoorQU2
import Derived.Test.YtglppcmegocphaaGreatDoorQU3
import Derived.Test.YtglppcmegocphaaGreatDoorQU4
import Derived.Test.YtglppcmegocphaaGreatDoorQU5
import Derived.Test.YtglppcmegocphaaGreatDoorQU6
import Derived.Test.YtglppcmegocphaaGreatDoorQU7
import Derived.Test.YtglppcmegocphaaGreatDoorQU8
import Derived.Test.YtglppcmegocphaaGreatDoorQU9
import Derived.Test.YtglppcmegocphaaGreatDoorQU10
import Derived.Test.YtglppcmegocphaaGreatDoorQU11
import Derived.Test.YtglppcmegocphaaGreatDoorQU12
import Derived.Test.YtglppcmegocphaaGreatDoorQU13
import Derived.Test.YtglppcmegocphaaGreatDoorQU14
import Derived.Test.YtglppcmegocphaaGreatDoorQU15
import Derived.Test.YtglppcmegocphaaGreatDoorQU16
import Derived.Test.YtglppcmegocphaaGreatDoorQU17
import Derived.Test.YtglppcmegocphaaGreatDoorQU18
import Derived.Test.YtglppcmegocphaaGreatDoorQU19
import Derived.Test.YtglppcmegocphaaGreatDoorQU20
import Derived.Test.YtglppcmegocphaaGreatDoorQU21
import Derived.Test.YtglppcmegocphaaGreatDoorQU22
import Derived.Test.YtglppcmegocphaaGreatDoorQU23
import Derived.Test.YtglppcmegocphaaGreatDoorQU24
import Derived.Test.YtglppcmegocphaaGreatDoorQU26
import Derived.Test.YtglppcmegocphaaGreatDoorQU28
import Derived.Test.YtglppcmegocphaaGreatDoorQU29
import Derived.Test.YtglppcmegocphaaGreatDoorQU32
import Derived.Test.YtglppcmegocphaaGreatDoorQU33
import Derived.Test.YtglppcmegocphaaGreatDoorQU34
import Derived.Test.YtglppcmegocphaaGreatDoorQU35
import Derived.Test.YtglppcmegocphaaGreatDoorQU36
import Derived.Test.YtglppcmegocphaaGreatDoorQU37
import Derived.Test.YtglppcmegocphaaGreatDoorQU38
import Derived.Test.YtglppcmegocphaaGreatDoorQU39
import Derived.Test.YtglppcmegocphaaGreatDoorQU40
namespace Go.Proofs.YtglppcmegocphaaGreatDoor
open Go Go.ChangeShapes Go.WideShapes Go.ChangeAt Go.WideMaps Go.WideElems Go.RowKit
set_option maxRecDepth 100000
theorem vectorPoints_lifted (os : Os) (started : os.Started) (H : Type) (enc : TypeId × Value → H) :
    ReturnsInHanded {} Tryz.checked os 12 .any (fun w args => (Rows.vectorPointsSpec.pre enc Tryz.prog Tryz.f12 [] false w args ∧ laidMetH Tryz.prog laid5 w) ∧ sizedMet enc Tryz.prog Tryz.f12 (OpenSpec.ofChange Rows.vectorPointsSpec) false w args)
      (Rows.vectorPointsSpec.post enc Tryz.prog Tryz.f12 false true false false) := by
  refine returnsInHanded_of_change_and (C := Tryz.checked) (X := fun w _ => laidMetH Tryz.prog laid5 w) (fun _ _ _ hh h => h.of_heap hh) own started (by kernel_rfl) Tryz.func12
    (ChangeSpec.witness_shaped (enc := enc) (C := Tryz.checked) (os := os) (X := fun w _ => laidMetH Tryz.prog laid5 w) false (World.doorLaid Tryz.prog 62 os) #[.agg #[.string ⟨#[]⟩, .string ⟨#[]⟩], .agg #[.string ⟨#[]⟩, .string ⟨#[]⟩], .agg #[.string ⟨#[]⟩, .string ⟨#[]⟩]] 8 rfl (World.shaped_of_RefB (by kernel_rfl) (by kernel_rfl)) (by kernel_rfl) (by kernel_rfl) (by kernel_rfl) (door_met os _)) ?_
  intro W base args ds gs before hval0 hW _ _ hL _
  have hval : ∀ (j : Nat) t v, Tryz.f12.params[j]? = Option.some t → args[j]? = Option.some v → Value.okWide Tryz.prog W .any base t v := hval0
  have hW' := hW
  obtain ⟨p, q, hA0, hV, rfl, hfz, hnd⟩ := hW
  have hA : DataW.TrodAll enc Tryz.prog W 0 (fun _ => true) true Tryz.f12.params.toList args.toList ds p := hA0
  rw [Tryz.params12] at hA hval
  obtain ⟨v0, v1, v2, d0, d1, d2, p0, p1, p2, rfl, rfl, rfl, h0, h1, h2⟩ := trodAll_three hA
  obtain ⟨rfl, rfl⟩ := trodVars_none hV
  obtain ⟨cs0, rfl⟩ := agg_of_ok (Or.inl ⟨_, Tryz.underlying62⟩) (hval 0 62 v0 rfl rfl)
  obtain ⟨f0, rfl, r0⟩ := open_plain 8 (show leafs Tryz.prog 8 62 = Option.some [.s, .s] by kernel_rfl) h0
  obtain ⟨cs1, rfl⟩ := agg_of_ok (Or.inl ⟨_, Tryz.underlying62⟩) (hval 1 62 v1 rfl rfl)
  obtain ⟨f1, rfl, r1⟩ := open_plain 8 (show leafs Tryz.prog 8 62 = Option.some [.s, .s] by kernel_rfl) h1
  obtain ⟨cs2, rfl⟩ := agg_of_ok (Or.inl ⟨_, Tryz.underlying62⟩) (hval 2 62 v2 rfl rfl)
  obtain ⟨f2, rfl, r2⟩ := open_plain 8 (show leafs Tryz.prog 8 62 = Option.some [.s, .s] by kernel_rfl) h2
  obtain ⟨x0, R0_0, hx0, E0_0, f⟩ := str_of f0
  obtain ⟨x1, R0_1, hx1, E0_1, f⟩ := str_of f
  have fe : R0_1 = [] := f
  rw [E0_1, fe] at E0_0
  rw [agg_cells E0_0] at hW' r0 ⊢
  obtain ⟨y0, R1_0, hy0, E1_0, f⟩ := str_of f1
  obtain ⟨y1, R1_1, hy1, E1_1, f⟩ := str_of f
  have fe : R1_1 = [] := f
  rw [E1_1, fe] at E1_0
  rw [agg_cells E1_0] at hW' r1 ⊢
  obtain ⟨z0, R2_0, hz0, E2_0, f⟩ := str_of f2
  obtain ⟨z1, R2_1, hz1, E2_1, f⟩ := str_of f
  have fe : R2_1 = [] := f
  rw [E2_1, fe] at E2_0
  rw [agg_cells E2_0] at hW' r2 ⊢
  have g := gd_of_laid hL
  refine (points_walk ⟨x0, x1⟩ ⟨y0, y1⟩ ⟨z0, z1⟩ W g).mono fun e W' ⟨he, hw⟩ => ?_
  subst he
  exact ⟨_, rfl, post_of_below hW' (fun _ _ _ => trodAll_mk1 (shut_bool Tryz.underlying4 _)) (fun sp _ => trodAll_mk3 (r0 W' 0 sp true) (r1 W' 0 sp true) (r2 W' 0 sp true)) (fun _ _ => rfl) rfl hw.below (ok_one (by kernel_rfl) rfl (okWide_bool_mk Tryz.underlying4 _))⟩

theorem vectorPoints_said : Rows.VectorPointsSaid :=
  OpenClaim.holds_of_wide 12 Tryz.f12 rfl rfl rfl rfl rfl rfl rfl ⟨rfl, rfl, rfl, rfl, rfl⟩ rfl rfl rfl rfl rfl (by kernel_rfl) Tryz.func12 (by kernel_rfl)
    (of_decide_eq_true (by kernel_rfl)) (by unfold Func.isWrapper; first | (rw [if_pos (by decide +kernel)]; kernel_rfl) | (rw [if_neg (by decide +kernel)]; exact ⟨rfl, rfl⟩))
    (fun os started H enc _ => vectorPoints_lifted os started H enc)

theorem vectorPoints_holds : Rows.VectorPointsCardSaid :=
  Claim7.holds_tied_plain_at .later [] [.data, .data, .data, .sentinel, .sentinel] true _ true
    vectorPoints_said (fun _ h => by cases h) (by kernel_rfl) (fun _ h => by cases h) vectorPoints_row_tie rfl ⟨rfl, rfl⟩ (by kernel_rfl) rfl
    (fun f fn hf hfn => by
      obtain rfl : f = 12 := Option.some.inj ((show Tryz.prog.funcNamed "klippe/klippelaw05.VectorPoints" = Option.some 12 by kernel_rfl).symm.trans hf) |>.symm
      obtain rfl : fn = Tryz.f12 := (Option.some.inj (Tryz.func12.symm.trans hfn)).symm
      exact ⟨by kernel_rfl, fun j t ht => by
        rw [Tryz.params12] at ht
        have hm : t ∈ [62, 62, 62] := by simpa using Array.mem_of_getElem? ht
        have hall : ([62, 62, 62].all fun u => !Tryz.prog.wantsStandIn u) = true := by kernel_rfl
        exact (show Tryz.prog.wantsStandIn t = false by simpa using List.all_eq_true.1 hall t hm)⟩)
    (by kernel_rfl)
#print axioms vectorPoints_holds
end Go.Proofs.YtglppcmegocphaaGreatDoor
