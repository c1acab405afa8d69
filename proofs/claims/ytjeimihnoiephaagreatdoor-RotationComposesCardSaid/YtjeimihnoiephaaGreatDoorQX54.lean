/- RotationComposes: the card. For every input the law returns true and each argument reads as before; the listed variables are tied to the program's text. -/
import Derived.Test.YtjeimihnoiephaaGreatDoorQX52
import Derived.Test.YtjeimihnoiephaaGreatDoorQX53
namespace Go.Proofs.YtjeimihnoiephaaGreatDoor
open Go Go.ChangeShapes Go.WideShapes Go.ChangeAt Go.WideMaps Go.WideElems Go.RowKit
set_option maxRecDepth 100000
theorem rotationComposes_lifted (os : Os) (started : os.Started) (H : Type) (enc : TypeId × Value → H) :
    ReturnsInHanded {} Tryz.checked os 6 .any (fun w args => (Rows.rotationComposesSpec.pre enc Tryz.prog Tryz.f6 [] false w args∧laidMetH Tryz.prog laid5 w)∧sizedMet enc Tryz.prog Tryz.f6 (OpenSpec.ofChange Rows.rotationComposesSpec) false w args)
      (Rows.rotationComposesSpec.post enc Tryz.prog Tryz.f6 false true false false):=by
  refine returnsInHanded_of_change_and (C:=Tryz.checked) (X:=fun w _ => laidMetH Tryz.prog laid5 w) (fun _ _ _ hh h => h.of_heap hh) own started (by kernel_rfl) Tryz.func6
    (ChangeSpec.witness_shaped (enc:=enc) (C:=Tryz.checked) (os:=os) (X:=fun w _ => laidMetH Tryz.prog laid5 w) false (World.doorLaid Tryz.prog 62 os) #[.agg #[.int .i64 0,.int .i64 0,.int .i64 0,.int .i64 0],.agg #[.int .i64 0,.int .i64 0,.int .i64 0,.int .i64 0]] 8 rfl (World.shaped_of_RefB (by kernel_rfl) (by kernel_rfl)) (by kernel_rfl) (by kernel_rfl) (by kernel_rfl) (door_met os _)) ?_
  intro W base args ds gs before hval0 hW _ _ hL _
  have hval:∀ (j:Nat) t v,Tryz.f6.params[j]? = Option.some t → args[j]? = Option.some v → Value.okWide Tryz.prog W .any base t v:=hval0
  have hW':=hW
  obtain ⟨p,q,hA0,hV,rfl,hfz,hnd⟩:=hW
  have hA:DataW.TrodAll enc Tryz.prog W 0 (fun _ => true) true Tryz.f6.params.toList args.toList ds p:=hA0
  rw [Tryz.params6] at hA hval
  obtain ⟨v0,v1,d0,d1,p0,p1,rfl,rfl,rfl,h0,h1⟩:=trodAll_two hA
  obtain ⟨rfl,rfl⟩:=trodVars_none hV
  obtain ⟨cs0,rfl⟩:=agg_of_ok (Or.inr ⟨_,_,Tryz.underlying22⟩) (hval 0 22 v0 rfl rfl)
  obtain ⟨f0,rfl,r0⟩:=open_plain 8 (show leafs Tryz.prog 8 22 = Option.some [.i .i64,.i .i64,.i .i64,.i .i64] by kernel_rfl) h0
  obtain ⟨cs1,rfl⟩:=agg_of_ok (Or.inr ⟨_,_,Tryz.underlying22⟩) (hval 1 22 v1 rfl rfl)
  obtain ⟨f1,rfl,r1⟩:=open_plain 8 (show leafs Tryz.prog 8 22 = Option.some [.i .i64,.i .i64,.i .i64,.i .i64] by kernel_rfl) h1
  obtain ⟨p0,R0_0,hp0,E0_0,f⟩:=i64_of f0
  obtain ⟨p1,R0_1,hp1,E0_1,f⟩:=i64_of f
  obtain ⟨p2,R0_2,hp2,E0_2,f⟩:=i64_of f
  obtain ⟨p3,R0_3,hp3,E0_3,f⟩:=i64_of f
  have fe:R0_3 = []:=f
  rw [E0_1,E0_2,E0_3,fe] at E0_0
  rw [agg_cells E0_0] at hW' r0 ⊢
  obtain ⟨q0,R1_0,hq0,E1_0,f⟩:=i64_of f1
  obtain ⟨q1,R1_1,hq1,E1_1,f⟩:=i64_of f
  obtain ⟨q2,R1_2,hq2,E1_2,f⟩:=i64_of f
  obtain ⟨q3,R1_3,hq3,E1_3,f⟩:=i64_of f
  have fe:R1_3 = []:=f
  rw [E1_1,E1_2,E1_3,fe] at E1_0
  rw [agg_cells E1_0] at hW' r1 ⊢
  have g:=gd_of_laid hL
  refine (comp17_walk ⟨p0,p1,p2,p3⟩ ⟨q0,q1,q2,q3⟩ W g).mono fun e W' ⟨he,hw⟩ => ?_
  subst he
  exact ⟨_,rfl,post_of_below hW' (fun _ _ _ => trodAll_mk1 (shut_bool Tryz.underlying4 _)) (fun sp _ => trodAll_mk2 (r0 W' 0 sp true) (r1 W' 0 sp true)) (fun _ _ => rfl) rfl hw.below (ok_one (by kernel_rfl) rfl (okWide_bool_mk Tryz.underlying4 _))⟩

theorem rotationComposes_said:Rows.RotationComposesSaid :=
  OpenClaim.holds_of_wide 6 Tryz.f6 rfl rfl rfl rfl rfl rfl rfl ⟨rfl,rfl,rfl,rfl,rfl⟩ rfl rfl rfl rfl rfl (by kernel_rfl) Tryz.func6 (by kernel_rfl)
    (of_decide_eq_true (by kernel_rfl)) (by unfold Func.isWrapper;first | (rw [if_pos (by decide +kernel)];kernel_rfl) | (rw [if_neg (by decide +kernel)];exact ⟨rfl,rfl⟩))
    (fun os started H enc _ => rotationComposes_lifted os started H enc)

theorem rotationComposes_holds:Rows.RotationComposesCardSaid :=
  Claim7.holds_tied_plain_at .later [] [.data,.data,.data,.sentinel,.sentinel] true _ true
    rotationComposes_said (fun _ h => by cases h) (by kernel_rfl) (fun _ h => by cases h) rotationComposes_row_tie rfl ⟨rfl,rfl⟩ (by kernel_rfl) rfl
    (fun f fn hf hfn => by
      obtain rfl:f = 6:=Option.some.inj ((show Tryz.prog.funcNamed "klippe/klippelaw17.RotationComposes" = Option.some 6 by kernel_rfl).symm.trans hf) |>.symm
      obtain rfl:fn = Tryz.f6:=(Option.some.inj (Tryz.func6.symm.trans hfn)).symm
      exact ⟨by kernel_rfl,fun j t ht => by
        rw [Tryz.params6] at ht
        have hm:t ∈ [22,22]:=by simpa using Array.mem_of_getElem? ht
        have hall:([22,22].all fun u => !Tryz.prog.wantsStandIn u) = true:=by kernel_rfl
        exact (show Tryz.prog.wantsStandIn t = false by simpa using List.all_eq_true.1 hall t hm)⟩)
    (by kernel_rfl)
#print axioms rotationComposes_holds
end Go.Proofs.YtjeimihnoiephaaGreatDoor
