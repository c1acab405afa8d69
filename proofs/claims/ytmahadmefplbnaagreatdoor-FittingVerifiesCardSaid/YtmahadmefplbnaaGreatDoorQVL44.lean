/- FittingVerifies: for every input the law returns true and each argument reads as before; the listed variables are tied to the program's text. -/
import Derived.Test.YtmahadmefplbnaaGreatDoorQVLB
import Derived.Test.YtmahadmefplbnaaGreatDoorQVL39
import Derived.Test.YtmahadmefplbnaaGreatDoorQVL43
set_option maxRecDepth 100000
set_option maxHeartbeats 2000000
open Go.Proofs.Tryz
namespace Go.Proofs.YtmahadmefplbnaaGreatDoor
open Go Go.ChangeShapes Go.WideShapes Go.ChangeAt Go.WideMaps Go.WideElems Go.RowKit
set_option maxRecDepth 100000
theorem nu (os:Os) (started:os.Started) (H:Type) (enc:TypeId × Value->H) :
    ReturnsInHanded {} checked os 10 .any (fun w args=>(Rows.fittingVerifiesSpec.pre enc prog f10 [] false w args/\laidMetH prog Dv w)/\sizedMet enc prog f10 (OpenSpec.ofChange Rows.fittingVerifiesSpec) false w args)
     (Rows.fittingVerifiesSpec.post enc prog f10 false true false false):=by
 refine returnsInHanded_of_change_and (C:=checked) (X:=fun w _=>laidMetH prog Dv w) (fun _ _ _ hh h=>h.of_heap hh) own started ag func10
  (ChangeSpec.witness_shaped (enc:=enc) (C:=checked) (os:=os) (X:=fun w _=>laidMetH prog Dv w) false (World.doorLaid prog 62 os) #[.slice none 0 0,.agg #[.int .u8 0,.int .u8 0,.string ⟨#[]⟩]] 8 rfl (World.shaped_of_RefB ag ag) ag ag ag (O8 os _)) ?_
 intro W base args ds gs before qbo hW _ _ hL _;have iR:∀ (j:Nat) t v,f10.params[j]?=Option.some t->args[j]?=Option.some v->Value.okWide prog W .any base t v:=qbo;have hW':=hW;obtain⟨p,q,hA0,hV,rfl,hfz,hnd⟩:=hW;have hA:DataW.TrodAll enc prog W 0 (fun _=>true) true f10.params.toList args.toList ds p:=hA0;rw[params10] at hA iR;obtain⟨v0,v1,d0,d1,p0,p1,rfl,rfl,rfl,h0,h1⟩:=trodAll_two hA;obtain⟨rfl,rfl⟩:=trodVars_none hV;obtain⟨wo,m,j4,c,rfl,hw,hc⟩:=FO h0 (okWide_slice underlying54 (iR 0 54 v0 rfl rfl));obtain⟨Gs,at_,lC,rfl,hh,ha⟩:=Ac (iR 1 88 v1 rfl rfl) h1;have g:=GP hL;have aP:=fun x hx=>hW'.lt x hx
 refine(wX wo m j4 c Gs at_ lC W g hw hc hh ha).mono fun e W' ⟨he,hw⟩=>?_
 subst he;exact⟨_,rfl,x8 hW' (fun _ _ _=>trodAll_mk1 (shut_bool underlying4 _)) (fun sp hsp=>trodAll_mk2 (Trod_stays (P:=prog) wD ag (of_decide_eq_true ag) h0 (fun x hx=>hw.below.same (aP x (by simp only[List.append_nil,List.mem_append];exact Or.inl hx))) (fun x hx=>hsp x (by simp only[List.append_nil,List.mem_append];exact Or.inl hx))) (Trod_stays (P:=prog) wD ag (of_decide_eq_true ag) h1 (fun x hx=>hw.below.same (aP x (by simp only[List.append_nil,List.mem_append];exact Or.inr hx))) (fun x hx=>hsp x (by simp only[List.append_nil,List.mem_append];exact Or.inr hx)))) (fun _ _=>rfl) rfl hw.below (ok_one ag rfl (okWide_bool_mk underlying4 _))⟩
set_option maxHeartbeats 4000000 in
theorem nv:joinedFacts prog 10 f10 Rows.fittingVerifiesSpec Rows.fittingVerifiesRow=true:=by
 unfold joinedFacts
 with_reducible repeat' apply YP
 all_goals first|(with_reducible exact wD)|(as_aux_lemma=>kernel_rfl)
theorem oB:Rows.FittingVerifiesSaid :=
 OpenClaim.holds_of_wide 10 f10 rfl rfl rfl rfl rfl rfl rfl ⟨rfl,rfl,rfl,rfl,rfl⟩ rfl rfl rfl rfl rfl ag func10 nv
  (of_decide_eq_true ag) (by unfold Func.isWrapper;first|(rw[if_pos (by decide +kernel)];kernel_rfl)|(rw[if_neg (by decide +kernel)];exact⟨rfl,rfl⟩))
  (fun os started H enc _=>nu os started H enc)
theorem fittingVerifies_holds:Rows.FittingVerifiesCardSaid :=
 Claim7.holds_tied_plain_at .later [] [.data,.data,.data,.sentinel,.sentinel] true _ true
  oB (fun _ h=>by cases h) ag (fun _ h=>by cases h) fittingVerifies_row_tie rfl ⟨rfl,rfl⟩ ag rfl
  (fun f fn hf hfn=>by
   obtain rfl:f=10:=Option.some.inj ((show prog.funcNamed "klippe/klippelaw19.FittingVerifies"=Option.some 10 by kernel_rfl).symm.trans hf) |>.symm;obtain rfl:fn=f10:=(Option.some.inj (func10.symm.trans hfn)).symm;exact⟨ag,fun j t ht=>by
    rw[params10] at ht;have hm:t ∈ [54,88]:=by simpa using Array.mem_of_getElem? ht
    have pS:([54,88].all fun u=>!prog.wantsStandIn u)=true:=ag;exact(show prog.wantsStandIn t=false by simpa using List.all_eq_true.1 pS t hm)⟩)
  ag
#print axioms fittingVerifies_holds
