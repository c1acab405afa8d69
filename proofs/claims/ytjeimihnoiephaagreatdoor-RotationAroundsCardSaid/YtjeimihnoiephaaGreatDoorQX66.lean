/- RotationArounds: the card. For every input the law returns true and each argument reads as before; the listed variables are tied to the program's text. -/
import Derived.Test.YtjeimihnoiephaaGreatDoorQX1
import Derived.Test.YtjeimihnoiephaaGreatDoorQX2
import Derived.Test.YtjeimihnoiephaaGreatDoorQX3
import Derived.Test.YtjeimihnoiephaaGreatDoorQX4
import Derived.Test.YtjeimihnoiephaaGreatDoorQX5
import Derived.Test.YtjeimihnoiephaaGreatDoorQX6
import Derived.Test.YtjeimihnoiephaaGreatDoorQX7
import Derived.Test.YtjeimihnoiephaaGreatDoorQX8
import Derived.Test.YtjeimihnoiephaaGreatDoorQX9
import Derived.Test.YtjeimihnoiephaaGreatDoorQX10
import Derived.Test.YtjeimihnoiephaaGreatDoorQX11
import Derived.Test.YtjeimihnoiephaaGreatDoorQX12
import Derived.Test.YtjeimihnoiephaaGreatDoorQX13
import Derived.Test.YtjeimihnoiephaaGreatDoorQX14
import Derived.Test.YtjeimihnoiephaaGreatDoorQX15
import Derived.Test.YtjeimihnoiephaaGreatDoorQX16
import Derived.Test.YtjeimihnoiephaaGreatDoorQX17
import Derived.Test.YtjeimihnoiephaaGreatDoorQX18
import Derived.Test.YtjeimihnoiephaaGreatDoorQX19
import Derived.Test.YtjeimihnoiephaaGreatDoorQX20
import Derived.Test.YtjeimihnoiephaaGreatDoorQX21
import Derived.Test.YtjeimihnoiephaaGreatDoorQX22
import Derived.Test.YtjeimihnoiephaaGreatDoorQX23
import Derived.Test.YtjeimihnoiephaaGreatDoorQX24
import Derived.Test.YtjeimihnoiephaaGreatDoorQX25
import Derived.Test.YtjeimihnoiephaaGreatDoorQX26
import Derived.Test.YtjeimihnoiephaaGreatDoorQX27
import Derived.Test.YtjeimihnoiephaaGreatDoorQX28
import Derived.Test.YtjeimihnoiephaaGreatDoorQX29
import Derived.Test.YtjeimihnoiephaaGreatDoorQX32
import Derived.Test.YtjeimihnoiephaaGreatDoorQX34
import Derived.Test.YtjeimihnoiephaaGreatDoorQX35
import Derived.Test.YtjeimihnoiephaaGreatDoorQX37
import Derived.Test.YtjeimihnoiephaaGreatDoorQX39
import Derived.Test.YtjeimihnoiephaaGreatDoorQX43
import Derived.Test.YtjeimihnoiephaaGreatDoorQX44
import Derived.Test.YtjeimihnoiephaaGreatDoorQX48
import Derived.Test.YtjeimihnoiephaaGreatDoorQX51
import Derived.Test.YtjeimihnoiephaaGreatDoorQX56
import Derived.Test.YtjeimihnoiephaaGreatDoorQX60
import Derived.Test.YtjeimihnoiephaaGreatDoorQX61
import Derived.Test.YtjeimihnoiephaaGreatDoorQX62
import Derived.Test.YtjeimihnoiephaaGreatDoorQX63
import Derived.Test.YtjeimihnoiephaaGreatDoorQX64
import Derived.Test.YtjeimihnoiephaaGreatDoorQX65
namespace Go.Proofs.YtjeimihnoiephaaGreatDoor
open Go Go.ChangeShapes Go.WideShapes Go.ChangeAt Go.WideMaps Go.WideElems Go.RowKit
set_option maxRecDepth 100000
theorem rotationArounds_lifted (os : Os) (started : os.Started) (H : Type) (enc : TypeId × Value → H) :
    ReturnsInHanded {} Tryz.checked os 4 .any (fun w args => (Rows.rotationAroundsSpec.pre enc Tryz.prog Tryz.f4 [] false w args∧laidMetH Tryz.prog laid5 w)∧sizedMet enc Tryz.prog Tryz.f4 (OpenSpec.ofChange Rows.rotationAroundsSpec) false w args)
      (Rows.rotationAroundsSpec.post enc Tryz.prog Tryz.f4 false true false false):=by
  refine returnsInHanded_of_change_and (C:=Tryz.checked) (X:=fun w _ => laidMetH Tryz.prog laid5 w) (fun _ _ _ hh h => h.of_heap hh) own started (by kernel_rfl) Tryz.func4
    (ChangeSpec.witness_shaped (enc:=enc) (C:=Tryz.checked) (os:=os) (X:=fun w _ => laidMetH Tryz.prog laid5 w) false (World.doorLaid Tryz.prog 62 os) #[.agg #[.string ⟨#[]⟩,.string ⟨#[]⟩,.string ⟨#[]⟩],.string ⟨#[]⟩] 8 rfl (World.shaped_of_RefB (by kernel_rfl) (by kernel_rfl)) (by kernel_rfl) (by kernel_rfl) (by kernel_rfl) (door_met os _)) ?_
  intro W base args ds gs before hval0 hW _ _ hL _
  have hval:∀ (j:Nat) t v,Tryz.f4.params[j]? = Option.some t → args[j]? = Option.some v → Value.okWide Tryz.prog W .any base t v:=hval0
  have hW':=hW
  obtain ⟨p,q,hA0,hV,rfl,hfz,hnd⟩:=hW
  have hA:DataW.TrodAll enc Tryz.prog W 0 (fun _ => true) true Tryz.f4.params.toList args.toList ds p:=hA0
  rw [Tryz.params4] at hA hval
  obtain ⟨v0,v1,d0,d1,p0,p1,rfl,rfl,rfl,h0,h1⟩:=trodAll_two hA
  obtain ⟨rfl,rfl⟩:=trodVars_none hV
  obtain ⟨cs0,rfl⟩:=agg_of_ok (Or.inl ⟨_,Tryz.underlying31⟩) (hval 0 31 v0 rfl rfl)
  obtain ⟨f0,rfl,r0⟩:=open_plain 8 (show leafs Tryz.prog 8 31 = Option.some [.s,.s,.s] by kernel_rfl) h0
  obtain ⟨s1,rfl,rfl,rfl,hs1⟩:=Go.ChangeMaps.open_string Tryz.underlying29 (hval 1 29 v1 rfl rfl) h1
  have r1:∀ (w2:World) (b2:Nat) (sp2:Nat → Bool) (hd2:Bool),DataW.Trod enc Tryz.prog w2 b2 sp2 hd2 29 (.string s1) (.lit (.string s1.data.toList)) []:=fun _ _ _ _ => ⟨1,by simp [DataW.trod,Tryz.underlying29,Value.cells,hs1]⟩
  obtain ⟨x0,R0_0,hx0,E0_0,f⟩:=str_of f0
  obtain ⟨x1,R0_1,hx1,E0_1,f⟩:=str_of f
  obtain ⟨x2,R0_2,hx2,E0_2,f⟩:=str_of f
  have fe:R0_2 = []:=f
  rw [E0_1,E0_2,fe] at E0_0
  rw [agg_cells E0_0] at hW' r0 ⊢
  have g:=gd_of_laid hL
  refine (arounds17_walk ⟨x0,x1,x2⟩ s1 W g).mono fun e W' ⟨he,hw⟩ => ?_
  subst he
  exact ⟨_,rfl,post_of_below hW' (fun _ _ _ => trodAll_mk1 (shut_bool Tryz.underlying4 _)) (fun sp _ => trodAll_mk2 (r0 W' 0 sp true) (r1 W' 0 sp true)) (fun _ _ => rfl) rfl hw.below (ok_one (by kernel_rfl) rfl (okWide_bool_mk Tryz.underlying4 _))⟩

theorem rotationArounds_said:Rows.RotationAroundsSaid :=
  OpenClaim.holds_of_wide 4 Tryz.f4 rfl rfl rfl rfl rfl rfl rfl ⟨rfl,rfl,rfl,rfl,rfl⟩ rfl rfl rfl rfl rfl (by kernel_rfl) Tryz.func4 (by kernel_rfl)
    (of_decide_eq_true (by kernel_rfl)) (by unfold Func.isWrapper;first | (rw [if_pos (by decide +kernel)];kernel_rfl) | (rw [if_neg (by decide +kernel)];exact ⟨rfl,rfl⟩))
    (fun os started H enc _ => rotationArounds_lifted os started H enc)

theorem rotationArounds_holds:Rows.RotationAroundsCardSaid :=
  Claim7.holds_tied_plain_at .later [] [.data,.data,.data,.sentinel,.sentinel] true _ true
    rotationArounds_said (fun _ h => by cases h) (by kernel_rfl) (fun _ h => by cases h) rotationArounds_row_tie rfl ⟨rfl,rfl⟩ (by kernel_rfl) rfl
    (fun f fn hf hfn => by
      obtain rfl:f = 4:=Option.some.inj ((show Tryz.prog.funcNamed "klippe/klippelaw17.RotationArounds" = Option.some 4 by kernel_rfl).symm.trans hf) |>.symm
      obtain rfl:fn = Tryz.f4:=(Option.some.inj (Tryz.func4.symm.trans hfn)).symm
      exact ⟨by kernel_rfl,fun j t ht => by
        rw [Tryz.params4] at ht
        have hm:t ∈ [31,29]:=by simpa using Array.mem_of_getElem? ht
        have hall:([31,29].all fun u => !Tryz.prog.wantsStandIn u) = true:=by kernel_rfl
        exact (show Tryz.prog.wantsStandIn t = false by simpa using List.all_eq_true.1 hall t hm)⟩)
    (by kernel_rfl)
#print axioms rotationArounds_holds
end Go.Proofs.YtjeimihnoiephaaGreatDoor
