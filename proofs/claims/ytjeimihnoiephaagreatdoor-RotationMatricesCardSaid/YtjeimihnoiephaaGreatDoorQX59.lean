/- RotationMatrices: the card. For every input the law returns true and each argument reads as before; the listed variables are tied to the program's text. -/
import Derived.Test.YtjeimihnoiephaaGreatDoorQX1
import Derived.Test.YtjeimihnoiephaaGreatDoorQX2
import Derived.Test.YtjeimihnoiephaaGreatDoorQX3
import Derived.Test.YtjeimihnoiephaaGreatDoorQX4
import Derived.Test.YtjeimihnoiephaaGreatDoorQX5
import Derived.Test.YtjeimihnoiephaaGreatDoorQX6
import Derived.Test.YtjeimihnoiephaaGreatDoorQX7
import Derived.Test.YtjeimihnoiephaaGreatDoorQX8
import Derived.Test.YtjeimihnoiephaaGreatDoorQX9
import Derived.Test.YtjeimihnoiephaaGreatDoorQX10
import Derived.Test.YtjeimihnoiephaaGreatDoorQX11
import Derived.Test.YtjeimihnoiephaaGreatDoorQX12
import Derived.Test.YtjeimihnoiephaaGreatDoorQX13
import Derived.Test.YtjeimihnoiephaaGreatDoorQX14
import Derived.Test.YtjeimihnoiephaaGreatDoorQX15
import Derived.Test.YtjeimihnoiephaaGreatDoorQX16
import Derived.Test.YtjeimihnoiephaaGreatDoorQX17
import Derived.Test.YtjeimihnoiephaaGreatDoorQX18
import Derived.Test.YtjeimihnoiephaaGreatDoorQX19
import Derived.Test.YtjeimihnoiephaaGreatDoorQX20
import Derived.Test.YtjeimihnoiephaaGreatDoorQX21
import Derived.Test.YtjeimihnoiephaaGreatDoorQX22
import Derived.Test.YtjeimihnoiephaaGreatDoorQX23
import Derived.Test.YtjeimihnoiephaaGreatDoorQX24
import Derived.Test.YtjeimihnoiephaaGreatDoorQX25
import Derived.Test.YtjeimihnoiephaaGreatDoorQX26
import Derived.Test.YtjeimihnoiephaaGreatDoorQX27
import Derived.Test.YtjeimihnoiephaaGreatDoorQX28
import Derived.Test.YtjeimihnoiephaaGreatDoorQX34
import Derived.Test.YtjeimihnoiephaaGreatDoorQX35
import Derived.Test.YtjeimihnoiephaaGreatDoorQX37
import Derived.Test.YtjeimihnoiephaaGreatDoorQX38
import Derived.Test.YtjeimihnoiephaaGreatDoorQX41
import Derived.Test.YtjeimihnoiephaaGreatDoorQX43
import Derived.Test.YtjeimihnoiephaaGreatDoorQX44
import Derived.Test.YtjeimihnoiephaaGreatDoorQX45
import Derived.Test.YtjeimihnoiephaaGreatDoorQX46
import Derived.Test.YtjeimihnoiephaaGreatDoorQX51
import Derived.Test.YtjeimihnoiephaaGreatDoorQX55
import Derived.Test.YtjeimihnoiephaaGreatDoorQX56
import Derived.Test.YtjeimihnoiephaaGreatDoorQX57
import Derived.Test.YtjeimihnoiephaaGreatDoorQX58
namespace Go.Proofs.YtjeimihnoiephaaGreatDoor
open Go Go.ChangeShapes Go.WideShapes Go.ChangeAt Go.WideMaps Go.WideElems Go.RowKit
set_option maxRecDepth 100000
theorem rotationMatrices_lifted (os : Os) (started : os.Started) (H : Type) (enc : TypeId × Value → H) :
    ReturnsInHanded {} Tryz.checked os 7 .any (fun w args => (Rows.rotationMatricesSpec.pre enc Tryz.prog Tryz.f7 [] false w args∧laidMetH Tryz.prog laid5 w)∧sizedMet enc Tryz.prog Tryz.f7 (OpenSpec.ofChange Rows.rotationMatricesSpec) false w args)
      (Rows.rotationMatricesSpec.post enc Tryz.prog Tryz.f7 false true false false):=by
  refine returnsInHanded_of_change_and (C:=Tryz.checked) (X:=fun w _ => laidMetH Tryz.prog laid5 w) (fun _ _ _ hh h => h.of_heap hh) own started (by kernel_rfl) Tryz.func7
    (ChangeSpec.witness_shaped (enc:=enc) (C:=Tryz.checked) (os:=os) (X:=fun w _ => laidMetH Tryz.prog laid5 w) false (World.doorLaid Tryz.prog 62 os) #[.agg #[.int .i8 0,.int .i8 0,.int .i8 0,.int .i8 0],.agg #[.int .i16 0,.int .u8 0,.int .i16 0,.int .u8 0,.int .i16 0,.int .u8 0,.int .i16 0,.int .u8 0,.int .i16 0,.int .u8 0,.int .i16 0,.int .u8 0]] 8 rfl (World.shaped_of_RefB (by kernel_rfl) (by kernel_rfl)) (by kernel_rfl) (by kernel_rfl) (by kernel_rfl) (door_met os _)) ?_
  intro W base args ds gs before hval0 hW _ _ hL _
  have hval:∀ (j:Nat) t v,Tryz.f7.params[j]? = Option.some t → args[j]? = Option.some v → Value.okWide Tryz.prog W .any base t v:=hval0
  have hW':=hW
  obtain ⟨p,q,hA0,hV,rfl,hfz,hnd⟩:=hW
  have hA:DataW.TrodAll enc Tryz.prog W 0 (fun _ => true) true Tryz.f7.params.toList args.toList ds p:=hA0
  rw [Tryz.params7] at hA hval
  obtain ⟨v0,v1,d0,d1,p0,p1,rfl,rfl,rfl,h0,h1⟩:=trodAll_two hA
  obtain ⟨rfl,rfl⟩:=trodVars_none hV
  obtain ⟨cs0,rfl⟩:=agg_of_ok (Or.inr ⟨_,_,Tryz.underlying49⟩) (hval 0 49 v0 rfl rfl)
  obtain ⟨f0,rfl,r0⟩:=open_plain 8 (show leafs Tryz.prog 8 49 = Option.some [.i .i8,.i .i8,.i .i8,.i .i8] by kernel_rfl) h0
  obtain ⟨cs1,rfl⟩:=agg_of_ok (Or.inl ⟨_,Tryz.underlying56⟩) (hval 1 56 v1 rfl rfl)
  obtain ⟨f1,rfl,r1⟩:=open_plain 8 (show leafs Tryz.prog 8 56 = Option.some [.i .i16,.i .u8,.i .i16,.i .u8,.i .i16,.i .u8,.i .i16,.i .u8,.i .i16,.i .u8,.i .i16,.i .u8] by kernel_rfl) h1
  obtain ⟨n0,R0_0,hn0,E0_0,f⟩:=i8_of f0
  obtain ⟨n1,R0_1,hn1,E0_1,f⟩:=i8_of f
  obtain ⟨n2,R0_2,hn2,E0_2,f⟩:=i8_of f
  obtain ⟨n3,R0_3,hn3,E0_3,f⟩:=i8_of f
  have fe:R0_3 = []:=f
  rw [E0_1,E0_2,E0_3,fe] at E0_0
  rw [agg_cells E0_0] at hW' r0 ⊢
  obtain ⟨p,R1_0,hp,E1_0,f⟩:=pla_of f1
  obtain ⟨q,R1_1,hq,E1_1,f⟩:=pla_of f
  have fe:R1_1 = []:=f
  rw [E1_1,fe] at E1_0
  rw [agg_cells E1_0] at hW' r1 ⊢
  have g:=gd_of_laid hL
  refine (mats17_walk n0 n1 n2 n3 p q W g hn0 hn1 hn2 hn3 hp hq).mono fun e W' ⟨he,hw⟩ => ?_
  subst he
  exact ⟨_,rfl,post_of_below hW' (fun _ _ _ => trodAll_mk1 (shut_bool Tryz.underlying4 _)) (fun sp _ => trodAll_mk2 (r0 W' 0 sp true) (r1 W' 0 sp true)) (fun _ _ => rfl) rfl hw.below (ok_one (by kernel_rfl) rfl (okWide_bool_mk Tryz.underlying4 _))⟩

theorem rotationMatrices_said:Rows.RotationMatricesSaid :=
  OpenClaim.holds_of_wide 7 Tryz.f7 rfl rfl rfl rfl rfl rfl rfl ⟨rfl,rfl,rfl,rfl,rfl⟩ rfl rfl rfl rfl rfl (by kernel_rfl) Tryz.func7 (by kernel_rfl)
    (of_decide_eq_true (by kernel_rfl)) (by unfold Func.isWrapper;first | (rw [if_pos (by decide +kernel)];kernel_rfl) | (rw [if_neg (by decide +kernel)];exact ⟨rfl,rfl⟩))
    (fun os started H enc _ => rotationMatrices_lifted os started H enc)

theorem rotationMatrices_holds:Rows.RotationMatricesCardSaid :=
  Claim7.holds_tied_plain_at .later [] [.data,.data,.data,.sentinel,.sentinel] true _ true
    rotationMatrices_said (fun _ h => by cases h) (by kernel_rfl) (fun _ h => by cases h) rotationMatrices_row_tie rfl ⟨rfl,rfl⟩ (by kernel_rfl) rfl
    (fun f fn hf hfn => by
      obtain rfl:f = 7:=Option.some.inj ((show Tryz.prog.funcNamed "klippe/klippelaw17.RotationMatrices" = Option.some 7 by kernel_rfl).symm.trans hf) |>.symm
      obtain rfl:fn = Tryz.f7:=(Option.some.inj (Tryz.func7.symm.trans hfn)).symm
      exact ⟨by kernel_rfl,fun j t ht => by
        rw [Tryz.params7] at ht
        have hm:t ∈ [49,56]:=by simpa using Array.mem_of_getElem? ht
        have hall:([49,56].all fun u => !Tryz.prog.wantsStandIn u) = true:=by kernel_rfl
        exact (show Tryz.prog.wantsStandIn t = false by simpa using List.all_eq_true.1 hall t hm)⟩)
    (by kernel_rfl)
#print axioms rotationMatrices_holds
end Go.Proofs.YtjeimihnoiephaaGreatDoor
