/- ProgramVerifies: for every input the law returns true and each argument reads as before; the listed variables are tied to the program's text. -/
import Derived.Test.YtmahadmefplbnaaGreatDoorQRV41
import Derived.Test.YtmahadmefplbnaaGreatDoorQRV43
set_option maxRecDepth 100000
set_option maxHeartbeats 2000000
namespace Go.Proofs.YtmahadmefplbnaaGreatDoor
open Go Go.ChangeShapes Go.WideShapes Go.ChangeAt Go.WideMaps Go.WideElems Go.RowKit
set_option maxRecDepth 100000
theorem programVerifies_lifted (os:Os) (started:os.Started) (H:Type) (enc:TypeId × Value->H) :
    ReturnsInHanded {} Tryz.checked os 5 .any (fun w args=>(Rows.programVerifiesSpec.pre enc Tryz.prog Tryz.f5 [] false w args/\laidMetH Tryz.prog laid5 w)/\sizedMet enc Tryz.prog Tryz.f5 (OpenSpec.ofChange Rows.programVerifiesSpec) false w args)
     (Rows.programVerifiesSpec.post enc Tryz.prog Tryz.f5 false true false false):=by
 refine returnsInHanded_of_change_and (C:=Tryz.checked) (X:=fun w _=>laidMetH Tryz.prog laid5 w) (fun _ _ _ hh h=>h.of_heap hh) own started (by kernel_rfl) Tryz.func5
  (ChangeSpec.witness_shaped (enc:=enc) (C:=Tryz.checked) (os:=os) (X:=fun w _=>laidMetH Tryz.prog laid5 w) false (World.doorLaid Tryz.prog 62 os) #[.agg #[.int .u8 0,.slice none 0 0,.int .i8 0,.int .i8 0,.int .i8 0],.agg #[.int .u8 0,.int .u8 0,.string ⟨#[]⟩]] 8 rfl (World.shaped_of_RefB (by kernel_rfl) (by kernel_rfl)) (by kernel_rfl) (by kernel_rfl) (by kernel_rfl) (door_met os _)) ?_
 intro W base args ds gs before hval0 hW _ _ hL _;have hval:∀ (j:Nat) t v,Tryz.f5.params[j]?=Option.some t->args[j]?=Option.some v->Value.okWide Tryz.prog W .any base t v:=hval0;have hW':=hW;obtain ⟨p,q,hA0,hV,rfl,hfz,hnd⟩:=hW;have hA:DataW.TrodAll enc Tryz.prog W 0 (fun _=>true) true Tryz.f5.params.toList args.toList ds p:=hA0;rw [Tryz.params5] at hA hval;obtain ⟨v0,v1,d0,d1,p0,p1,rfl,rfl,rfl,h0,h1⟩:=trodAll_two hA;obtain ⟨rfl,rfl⟩:=trodVars_none hV;obtain ⟨vv,m,wcap,wo,c,o0,o1,o2,rfl,hpl⟩:=plan_open (hval 0 26 v0 rfl rfl) h0;obtain ⟨how,at_,by_,rfl,hh,ha⟩:=spoil_open (hval 1 51 v1 rfl rfl) h1;have g:=gd_of_laid hL;have hlt:=fun x hx=>hW'.lt x hx
 refine (verifies_walk vv m wcap wo c o0 o1 o2 how at_ by_ W g hpl hh ha).mono fun e W' ⟨he,hw⟩=>?_
 subst he;exact ⟨_,rfl,post_of_below hW' (fun _ _ _=>trodAll_mk1 (shut_bool Tryz.underlying4 _)) (fun sp hsp=>trodAll_mk2 (Trod_stays (P:=Tryz.prog) laidOut7 (by kernel_rfl) (of_decide_eq_true (by kernel_rfl)) h0 (fun x hx=>hw.below.same (hlt x (by simp only [List.append_nil,List.mem_append];exact Or.inl hx))) (fun x hx=>hsp x (by simp only [List.append_nil,List.mem_append];exact Or.inl hx))) (Trod_stays (P:=Tryz.prog) laidOut7 (by kernel_rfl) (of_decide_eq_true (by kernel_rfl)) h1 (fun x hx=>hw.below.same (hlt x (by simp only [List.append_nil,List.mem_append];exact Or.inr hx))) (fun x hx=>hsp x (by simp only [List.append_nil,List.mem_append];exact Or.inr hx)))) (fun _ _=>rfl) rfl hw.below (ok_one (by kernel_rfl) rfl (okWide_bool_mk Tryz.underlying4 _))⟩
set_option maxHeartbeats 4000000 in
theorem programVerifies_joined:joinedFacts Tryz.prog 5 Tryz.f5 Rows.programVerifiesSpec Rows.programVerifiesRow=true:=by
 unfold joinedFacts
 with_reducible repeat' apply and_tt
 all_goals first|(with_reducible exact laidOut7)|(as_aux_lemma=>kernel_rfl)
theorem programVerifies_said:Rows.ProgramVerifiesSaid :=
 OpenClaim.holds_of_wide 5 Tryz.f5 rfl rfl rfl rfl rfl rfl rfl ⟨rfl,rfl,rfl,rfl,rfl⟩ rfl rfl rfl rfl rfl (by kernel_rfl) Tryz.func5 programVerifies_joined
  (of_decide_eq_true (by kernel_rfl)) (by unfold Func.isWrapper;first|(rw [if_pos (by decide +kernel)];kernel_rfl)|(rw [if_neg (by decide +kernel)];exact ⟨rfl,rfl⟩))
  (fun os started H enc _=>programVerifies_lifted os started H enc)
theorem programVerifies_holds:Rows.ProgramVerifiesCardSaid :=
 Claim7.holds_tied_plain_at .later [] [.data,.data,.data,.sentinel,.sentinel] true _ true
  programVerifies_said (fun _ h=>by cases h) (by kernel_rfl) (fun _ h=>by cases h) programVerifies_row_tie rfl ⟨rfl,rfl⟩ (by kernel_rfl) rfl
  (fun f fn hf hfn=>by
   obtain rfl:f=5:=Option.some.inj ((show Tryz.prog.funcNamed "klippe/klippelaw07.ProgramVerifies"=Option.some 5 by kernel_rfl).symm.trans hf) |>.symm;obtain rfl:fn=Tryz.f5:=(Option.some.inj (Tryz.func5.symm.trans hfn)).symm;exact ⟨by kernel_rfl,fun j t ht=>by
    rw [Tryz.params5] at ht;have hm:t ∈ [26,51]:=by simpa using Array.mem_of_getElem? ht
    have hall:([26,51].all fun u=>!Tryz.prog.wantsStandIn u)=true:=by kernel_rfl
    exact (show Tryz.prog.wantsStandIn t=false by simpa using List.all_eq_true.1 hall t hm)⟩)
  (by kernel_rfl)
#print axioms programVerifies_holds
end Go.Proofs.YtmahadmefplbnaaGreatDoor
