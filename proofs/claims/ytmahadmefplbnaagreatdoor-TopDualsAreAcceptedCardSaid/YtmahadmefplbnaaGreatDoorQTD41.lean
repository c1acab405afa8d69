/- TopDualsAreAccepted: for every input the law returns true and each argument reads as before; the listed variables are tied to the program's text. -/
import Derived.Test.YtmahadmefplbnaaGreatDoorQTDB
import Derived.Test.YtmahadmefplbnaaGreatDoorQTD37
import Derived.Test.YtmahadmefplbnaaGreatDoorQTD40
set_option maxRecDepth 100000
set_option maxHeartbeats 2000000
open Go.Proofs.Tryz
namespace Go.Proofs.YtmahadmefplbnaaGreatDoor
open Go Go.ChangeShapes Go.WideShapes Go.ChangeAt Go.WideMaps Go.WideElems Go.RowKit
set_option maxRecDepth 100000
theorem fG (os:Os) (started:os.Started) (H:Type) (enc:TypeId × Value->H) :
    ReturnsInHanded {} checked os 3 .any (fun w args=>(Rows.topDualsAreAcceptedSpec.pre enc prog f3 [] false w args/\laidMetH prog qZ w)/\sizedMet enc prog f3 (OpenSpec.ofChange Rows.topDualsAreAcceptedSpec) false w args)
     (Rows.topDualsAreAcceptedSpec.post enc prog f3 false true false false):=by
 refine returnsInHanded_of_change_and (C:=checked) (X:=fun w _=>laidMetH prog qZ w) (fun _ _ _ hh h=>h.of_heap hh) own started ag func3
  (ChangeSpec.witness_shaped (enc:=enc) (C:=checked) (os:=os) (X:=fun w _=>laidMetH prog qZ w) false (World.doorLaid prog 62 os) #[.agg #[.int .u8 0,.slice none 0 0,.int .i8 0,.int .i8 0,.int .i8 0]] 8 rfl (World.shaped_of_RefB ag ag) ag ag ag (zg os _)) ?_
 intro W base args ds gs before hval0 hW _ _ hL _;have hval:∀ (j:Nat) t v,f3.params[j]?=Option.some t->args[j]?=Option.some v->Value.okWide prog W .any base t v:=hval0;have hW':=hW;obtain⟨p,q,hA0,hV,rfl,hfz,hnd⟩:=hW;have hA:DataW.TrodAll enc prog W 0 (fun _=>true) true f3.params.toList args.toList ds p:=hA0;rw[params3] at hA hval;obtain⟨v0,d0,rfl,rfl,h0⟩:=trodAll_one hA;obtain⟨rfl,rfl⟩:=trodVars_none hV;obtain⟨vv,m,wcap,wo,c,o0,o1,o2,rfl,hpl⟩:=vA (hval 0 26 v0 rfl rfl) h0;have g:=sW hL;have hlt:=fun x hx=>hW'.lt x hx
 refine(nD vv m wcap wo c o0 o1 o2 W g hpl).mono fun e W' ⟨he,hw⟩=>?_
 subst he;exact⟨_,rfl,nE hW' (fun _ _ _=>trodAll_mk1 (shut_bool underlying4 _)) (fun sp hsp=>trodAll_mk1 (Trod_stays (P:=prog) qY ag (of_decide_eq_true ag) h0 (fun x hx=>hw.below.same (hlt x (by simp only[List.append_nil];exact hx))) (fun x hx=>hsp x (by simp only[List.append_nil];exact hx)))) (fun _ _=>rfl) rfl hw.below (ok_one ag rfl (okWide_bool_mk underlying4 _))⟩
set_option maxHeartbeats 4000000 in
theorem fH:joinedFacts prog 3 f3 Rows.topDualsAreAcceptedSpec Rows.topDualsAreAcceptedRow=true:=by
 unfold joinedFacts
 with_reducible repeat' apply C9
 all_goals first|(with_reducible exact qY)|(as_aux_lemma=>kernel_rfl)
theorem gj:Rows.TopDualsAreAcceptedSaid :=
 OpenClaim.holds_of_wide 3 f3 rfl rfl rfl rfl rfl rfl rfl ⟨rfl,rfl,rfl,rfl,rfl⟩ rfl rfl rfl rfl rfl ag func3 fH
  (of_decide_eq_true ag) (by unfold Func.isWrapper;first|(rw[if_pos (by decide +kernel)];kernel_rfl)|(rw[if_neg (by decide +kernel)];exact⟨rfl,rfl⟩))
  (fun os started H enc _=>fG os started H enc)
theorem topDualsAreAccepted_holds:Rows.TopDualsAreAcceptedCardSaid :=
 Claim7.holds_tied_plain_at .later [] [.data,.data,.data,.sentinel,.sentinel] true _ true
  gj (fun _ h=>by cases h) ag (fun _ h=>by cases h) topDualsAreAccepted_row_tie rfl ⟨rfl,rfl⟩ ag rfl
  (fun f fn hf hfn=>by
   obtain rfl:f=3:=Option.some.inj ((show prog.funcNamed "klippe/klippetop.TopDualsAreAccepted"=Option.some 3 by kernel_rfl).symm.trans hf) |>.symm;obtain rfl:fn=f3:=(Option.some.inj (func3.symm.trans hfn)).symm;exact⟨ag,fun j t ht=>by
    rw[params3] at ht;have hm:t ∈ [26]:=by simpa using Array.mem_of_getElem? ht
    have hall:([26].all fun u=>!prog.wantsStandIn u)=true:=ag;exact(show prog.wantsStandIn t=false by simpa using List.all_eq_true.1 hall t hm)⟩)
  ag
#print axioms topDualsAreAccepted_holds
end Go.Proofs.YtmahadmefplbnaaGreatDoor
