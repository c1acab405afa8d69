/- FittingLaws: for every input the law returns true and each argument reads as before; the listed variables are tied to the program's text. -/
import Derived.Test.YtmahadmefplbnaaGreatDoorQFUB
import Derived.Test.YtmahadmefplbnaaGreatDoorQFU45
import Derived.Test.YtmahadmefplbnaaGreatDoorQFU52
set_option maxRecDepth 100000
set_option maxHeartbeats 2000000
namespace Go.Proofs.YtmahadmefplbnaaGreatDoor
open Go Go.ChangeShapes Go.WideShapes Go.ChangeAt Go.WideMaps Go.WideElems Go.RowKit
set_option maxRecDepth 100000
theorem jN (os:Os) (started:os.Started) (H:Type) (enc:TypeId × Value->H) :
    ReturnsInHanded {} Tryz.checked os 7 .any (fun w args=>(Rows.fittingLawsSpec.pre enc Tryz.prog Tryz.f7 [] false w args/\laidMetH Tryz.prog iz w)/\sizedMet enc Tryz.prog Tryz.f7 (OpenSpec.ofChange Rows.fittingLawsSpec) false w args)
     (Rows.fittingLawsSpec.post enc Tryz.prog Tryz.f7 false true false false):=by
 refine returnsInHanded_of_change_and (C:=Tryz.checked) (X:=fun w _=>laidMetH Tryz.prog iz w) (fun _ _ _ hh h=>h.of_heap hh) own started ag Tryz.func7
  (ChangeSpec.witness_shaped (enc:=enc) (C:=Tryz.checked) (os:=os) (X:=fun w _=>laidMetH Tryz.prog iz w) false (World.doorLaid Tryz.prog 62 os) #[.slice none 0 0] 8 rfl (World.shaped_of_RefB ag ag) ag ag ag (ot os _)) ?_
 intro W base args ds gs before hval0 hW _ _ hL _;have hval:∀ (j:Nat) t v,Tryz.f7.params[j]?=Option.some t->args[j]?=Option.some v->Value.okWide Tryz.prog W .any base t v:=hval0;have hW':=hW;obtain ⟨p,q,hA0,hV,rfl,hfz,hnd⟩:=hW;have hA:DataW.TrodAll enc Tryz.prog W 0 (fun _=>true) true Tryz.f7.params.toList args.toList ds p:=hA0;rw [Tryz.params7] at hA hval;obtain ⟨v0,d0,rfl,rfl,h0⟩:=trodAll_one hA;obtain ⟨rfl,rfl⟩:=trodVars_none hV;obtain ⟨wo,m,wcap,c,rfl,hw,hc⟩:=nt h0 (okWide_slice Tryz.underlying54 (hval 0 54 v0 rfl rfl));have g:=jL hL;have hlt:=fun x hx=>hW'.lt x hx
 refine (uS wo m wcap c W g hw hc).mono fun e W' ⟨he,hw⟩=>?_
 subst he;exact ⟨_,rfl,fW hW' (fun _ _ _=>trodAll_mk1 (shut_bool Tryz.underlying4 _)) (fun sp hsp=>trodAll_mk1 (Trod_stays (P:=Tryz.prog) gx ag (of_decide_eq_true ag) h0 (fun x hx=>hw.below.same (hlt x (by simp only [List.append_nil];exact hx))) (fun x hx=>hsp x (by simp only [List.append_nil];exact hx)))) (fun _ _=>rfl) rfl hw.below (ok_one ag rfl (okWide_bool_mk Tryz.underlying4 _))⟩
set_option maxHeartbeats 4000000 in
theorem jO:joinedFacts Tryz.prog 7 Tryz.f7 Rows.fittingLawsSpec Rows.fittingLawsRow=true:=by
 unfold joinedFacts
 with_reducible repeat' apply vC
 all_goals first|(with_reducible exact gx)|(as_aux_lemma=>kernel_rfl)
theorem lh:Rows.FittingLawsSaid :=
 OpenClaim.holds_of_wide 7 Tryz.f7 rfl rfl rfl rfl rfl rfl rfl ⟨rfl,rfl,rfl,rfl,rfl⟩ rfl rfl rfl rfl rfl ag Tryz.func7 jO
  (of_decide_eq_true ag) (by unfold Func.isWrapper;first|(rw [if_pos (by decide +kernel)];kernel_rfl)|(rw [if_neg (by decide +kernel)];exact ⟨rfl,rfl⟩))
  (fun os started H enc _=>jN os started H enc)
theorem fittingLaws_holds:Rows.FittingLawsCardSaid :=
 Claim7.holds_tied_plain_at .later [] [.data,.data,.data,.sentinel,.sentinel] true _ true
  lh (fun _ h=>by cases h) ag (fun _ h=>by cases h) fittingLaws_row_tie rfl ⟨rfl,rfl⟩ ag rfl
  (fun f fn hf hfn=>by
   obtain rfl:f=7:=Option.some.inj ((show Tryz.prog.funcNamed "klippe/klippelaw19.FittingLaws"=Option.some 7 by kernel_rfl).symm.trans hf) |>.symm;obtain rfl:fn=Tryz.f7:=(Option.some.inj (Tryz.func7.symm.trans hfn)).symm;exact ⟨ag,fun j t ht=>by
    rw [Tryz.params7] at ht;have hm:t ∈ [54]:=by simpa using Array.mem_of_getElem? ht
    have hall:([54].all fun u=>!Tryz.prog.wantsStandIn u)=true:=ag;exact (show Tryz.prog.wantsStandIn t=false by simpa using List.all_eq_true.1 hall t hm)⟩)
  ag
#print axioms fittingLaws_holds
end Go.Proofs.YtmahadmefplbnaaGreatDoor
