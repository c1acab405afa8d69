/- RotationKeeps: the card. For every input the law returns true and each argument reads as before; the listed variables are tied to the program's text. -/
import Derived.Test.YtjeimihnoiephaaGreatDoorQZ35
import Derived.Test.YtjeimihnoiephaaGreatDoorQZ38
set_option maxRecDepth 100000
namespace Go.Proofs.YtjeimihnoiephaaGreatDoor
open Go Go.ChangeShapes Go.WideShapes Go.ChangeAt Go.WideMaps Go.WideElems Go.RowKit
set_option maxRecDepth 100000
theorem rotationKeeps_lifted (os : Os) (started : os.Started) (H : Type) (enc : TypeId × Value → H) :
    ReturnsInHanded {} Tryz.checked os 9 .any (fun w args=>(Rows.rotationKeepsSpec.pre enc Tryz.prog Tryz.f9 [] false w args∧laidMetH Tryz.prog laid5 w)∧sizedMet enc Tryz.prog Tryz.f9 (OpenSpec.ofChange Rows.rotationKeepsSpec) false w args)
      (Rows.rotationKeepsSpec.post enc Tryz.prog Tryz.f9 false true false false):=by
  refine returnsInHanded_of_change_and (C:=Tryz.checked) (X:=fun w _=>laidMetH Tryz.prog laid5 w) (fun _ _ _ hh h=>h.of_heap hh) own started (by kernel_rfl) Tryz.func9
    (ChangeSpec.witness_shaped (enc:=enc) (C:=Tryz.checked) (os:=os) (X:=fun w _=>laidMetH Tryz.prog laid5 w) false (World.doorLaid Tryz.prog 62 os) #[.agg #[.int .i8 0,.int .i8 0,.int .i8 0,.int .i8 0],.agg #[.int .i16 0,.int .u8 0,.int .i16 0,.int .u8 0,.int .i16 0,.int .u8 0],.agg #[.int .i8 0,.int .i8 0]] 8 rfl (World.shaped_of_RefB (by kernel_rfl) (by kernel_rfl)) (by kernel_rfl) (by kernel_rfl) (by kernel_rfl) (door_met os _)) ?_
  intro W base args ds gs before hval0 hW _ _ hL _
  have hval:∀ (j:Nat) t v,Tryz.f9.params[j]?=Option.some t→args[j]?=Option.some v→Value.okWide Tryz.prog W .any base t v:=hval0
  have hW':=hW
  obtain ⟨p,q,hA0,hV,rfl,hfz,hnd⟩:=hW
  have hA:DataW.TrodAll enc Tryz.prog W 0 (fun _=>true) true Tryz.f9.params.toList args.toList ds p:=hA0
  rw [Tryz.params9] at hA hval
  obtain ⟨v0,v1,v2,d0,d1,d2,p0,p1,p2,rfl,rfl,rfl,h0,h1,h2⟩:=trodAll_three hA
  obtain ⟨rfl,rfl⟩:=trodVars_none hV
  obtain ⟨cs0,rfl⟩:=agg_of_ok (Or.inr ⟨_,_,Tryz.underlying49⟩) (hval 0 49 v0 rfl rfl)
  obtain ⟨f0,rfl,r0⟩:=open_plain 8 (show leafs Tryz.prog 8 49=Option.some [.i .i8,.i .i8,.i .i8,.i .i8] by kernel_rfl) h0
  obtain ⟨cs1,rfl⟩:=agg_of_ok (Or.inr ⟨_,_,Tryz.underlying54⟩) (hval 1 54 v1 rfl rfl)
  obtain ⟨f1,rfl,r1⟩:=open_plain 8 (show leafs Tryz.prog 8 54=Option.some [.i .i16,.i .u8,.i .i16,.i .u8,.i .i16,.i .u8] by kernel_rfl) h1
  obtain ⟨cs2,rfl⟩:=agg_of_ok (Or.inr ⟨_,_,Tryz.underlying80⟩) (hval 2 80 v2 rfl rfl)
  obtain ⟨f2,rfl,r2⟩:=open_plain 8 (show leafs Tryz.prog 8 80=Option.some [.i .i8,.i .i8] by kernel_rfl) h2
  obtain ⟨n0,R0_0,hn0,E0_0,f⟩:=i8_of f0
  obtain ⟨n1,R0_1,hn1,E0_1,f⟩:=i8_of f
  obtain ⟨n2,R0_2,hn2,E0_2,f⟩:=i8_of f
  obtain ⟨n3,R0_3,hn3,E0_3,f⟩:=i8_of f
  have fe:R0_3=[]:=f
  rw [E0_1,E0_2,E0_3,fe] at E0_0
  rw [agg_cells E0_0] at hW' r0 ⊢
  obtain ⟨p,R1_0,hp,E1_0,f⟩:=pla_of f1
  have fe:R1_0=[]:=f
  rw [fe] at E1_0
  rw [agg_cells E1_0] at hW' r1 ⊢
  obtain ⟨y0,R2_0,hy0,E2_0,f⟩:=i8_of f2
  obtain ⟨y1,R2_1,hy1,E2_1,f⟩:=i8_of f
  have fe:R2_1=[]:=f
  rw [E2_1,fe] at E2_0
  rw [agg_cells E2_0] at hW' r2 ⊢
  have g:=gd_of_laid hL
  refine (keeps17_walk n0 n1 n2 n3 p y0 y1 W g hn0 hn1 hn2 hn3 hp hy0 hy1).mono fun e W' ⟨he,hw⟩=>?_
  subst he
  exact ⟨_,rfl,post_of_below hW' (fun _ _ _=>trodAll_mk1 (shut_bool Tryz.underlying4 _)) (fun sp _=>trodAll_mk3 (r0 W' 0 sp true) (r1 W' 0 sp true) (r2 W' 0 sp true)) (fun _ _=>rfl) rfl hw.below (ok_one (by kernel_rfl) rfl (okWide_bool_mk Tryz.underlying4 _))⟩

theorem rotationKeeps_said:Rows.RotationKeepsSaid :=
  OpenClaim.holds_of_wide 9 Tryz.f9 rfl rfl rfl rfl rfl rfl rfl ⟨rfl,rfl,rfl,rfl,rfl⟩ rfl rfl rfl rfl rfl (by kernel_rfl) Tryz.func9 (by kernel_rfl)
    (of_decide_eq_true (by kernel_rfl)) (by unfold Func.isWrapper;first|(rw [if_pos (by decide +kernel)];kernel_rfl)|(rw [if_neg (by decide +kernel)];exact ⟨rfl,rfl⟩))
    (fun os started H enc _=>rotationKeeps_lifted os started H enc)

theorem rotationKeeps_holds:Rows.RotationKeepsCardSaid :=
  Claim7.holds_tied_plain_at .later [] [.data,.data,.data,.sentinel,.sentinel] true _ true
    rotationKeeps_said (fun _ h=>by cases h) (by kernel_rfl) (fun _ h=>by cases h) rotationKeeps_row_tie rfl ⟨rfl,rfl⟩ (by kernel_rfl) rfl
    (fun f fn hf hfn=>by
      obtain rfl:f=9:=Option.some.inj ((show Tryz.prog.funcNamed "klippe/klippelaw17.RotationKeeps"=Option.some 9 by kernel_rfl).symm.trans hf) |>.symm
      obtain rfl:fn=Tryz.f9:=(Option.some.inj (Tryz.func9.symm.trans hfn)).symm
      exact ⟨by kernel_rfl,fun j t ht=>by
        rw [Tryz.params9] at ht
        have hm:t ∈ [49,54,80]:=by simpa using Array.mem_of_getElem? ht
        have hall:([49,54,80].all fun u=>!Tryz.prog.wantsStandIn u)=true:=by kernel_rfl
        exact (show Tryz.prog.wantsStandIn t=false by simpa using List.all_eq_true.1 hall t hm)⟩)
    (by kernel_rfl)
#print axioms rotationKeeps_holds
end Go.Proofs.YtjeimihnoiephaaGreatDoor
