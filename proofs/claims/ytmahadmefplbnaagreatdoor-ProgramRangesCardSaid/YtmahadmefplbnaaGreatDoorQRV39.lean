/- ProgramRanges: for every input the law returns true and each argument reads as before; the listed variables are tied to the program's text. -/
import Derived.Test.YtmahadmefplbnaaGreatDoorQRV35
import Derived.Test.YtmahadmefplbnaaGreatDoorQRV38
set_option maxRecDepth 100000
set_option maxHeartbeats 2000000
namespace Go.Proofs.YtmahadmefplbnaaGreatDoor
open Go Go.ChangeShapes Go.WideShapes Go.ChangeAt Go.WideMaps Go.WideElems Go.RowKit Go.Deep
set_option maxRecDepth 100000
section
variable {H:Type} {enc:TypeId × Value->H} {W:World} {base:Nat} {sp:Nat->Bool} {held:Bool}
theorem int_open {v:Value} {d:DataW H} {p:List MemPlace} {r:Reach} {b0:Nat} (_h:DataW.Trod enc Tryz.prog W base sp held 3 v d p) (hv:Value.okWide Tryz.prog W r b0 3 v):∃ k:Int,v = .int .i64 k:=okWide_int Tryz.underlying3 hv
end
end Go.Proofs.YtmahadmefplbnaaGreatDoor
namespace Go.Proofs.YtmahadmefplbnaaGreatDoor
open Go Go.ChangeShapes Go.WideShapes Go.ChangeAt Go.WideMaps Go.WideElems Go.RowKit
set_option maxRecDepth 100000
theorem programRanges_lifted (os:Os) (started:os.Started) (H:Type) (enc:TypeId × Value->H) :
    ReturnsInHanded {} Tryz.checked os 4 .any (fun w args=>(Rows.programRangesSpec.pre enc Tryz.prog Tryz.f4 [] false w args/\laidMetH Tryz.prog laid5 w)/\sizedMet enc Tryz.prog Tryz.f4 (OpenSpec.ofChange Rows.programRangesSpec) false w args)
     (Rows.programRangesSpec.post enc Tryz.prog Tryz.f4 false true false false):=by
 refine returnsInHanded_of_change_and (C:=Tryz.checked) (X:=fun w _=>laidMetH Tryz.prog laid5 w) (fun _ _ _ hh h=>h.of_heap hh) own started (by kernel_rfl) Tryz.func4
  (ChangeSpec.witness_shaped (enc:=enc) (C:=Tryz.checked) (os:=os) (X:=fun w _=>laidMetH Tryz.prog laid5 w) false (World.doorLaid Tryz.prog 62 os) #[.agg #[.int .u8 0,.slice none 0 0,.int .i8 0,.int .i8 0,.int .i8 0],.int .i64 0] 8 rfl (World.shaped_of_RefB (by kernel_rfl) (by kernel_rfl)) (by kernel_rfl) (by kernel_rfl) (by kernel_rfl) (door_met os _)) ?_
 intro W base args ds gs before hval0 hW _ _ hL _;have hval:∀ (j:Nat) t v,Tryz.f4.params[j]?=Option.some t->args[j]?=Option.some v->Value.okWide Tryz.prog W .any base t v:=hval0;have hW':=hW;obtain ⟨p,q,hA0,hV,rfl,hfz,hnd⟩:=hW;have hA:DataW.TrodAll enc Tryz.prog W 0 (fun _=>true) true Tryz.f4.params.toList args.toList ds p:=hA0;rw [Tryz.params4] at hA hval;obtain ⟨v0,v1,d0,d1,p0,p1,rfl,rfl,rfl,h0,h1⟩:=trodAll_two hA;obtain ⟨rfl,rfl⟩:=trodVars_none hV;obtain ⟨vv,m,wcap,wo,c,o0,o1,o2,rfl,hpl⟩:=plan_open (hval 0 26 v0 rfl rfl) h0;obtain ⟨k,rfl⟩:=int_open h1 (hval 1 3 v1 rfl rfl);have g:=gd_of_laid hL;have hlt:=fun x hx=>hW'.lt x hx
 refine (ranges_walk vv m wcap wo c o0 o1 o2 k W g hpl).mono fun e W' ⟨he,hw⟩=>?_
 subst he;exact ⟨_,rfl,post_of_below hW' (fun _ _ _=>trodAll_mk1 (shut_bool Tryz.underlying4 _)) (fun sp hsp=>trodAll_mk2 (Trod_stays (P:=Tryz.prog) laidOut7 (by kernel_rfl) (of_decide_eq_true (by kernel_rfl)) h0 (fun x hx=>hw.below.same (hlt x (by simp only [List.append_nil,List.mem_append];exact Or.inl hx))) (fun x hx=>hsp x (by simp only [List.append_nil,List.mem_append];exact Or.inl hx))) (Trod_stays (P:=Tryz.prog) laidOut7 (by kernel_rfl) (of_decide_eq_true (by kernel_rfl)) h1 (fun x hx=>hw.below.same (hlt x (by simp only [List.append_nil,List.mem_append];exact Or.inr hx))) (fun x hx=>hsp x (by simp only [List.append_nil,List.mem_append];exact Or.inr hx)))) (fun _ _=>rfl) rfl hw.below (ok_one (by kernel_rfl) rfl (okWide_bool_mk Tryz.underlying4 _))⟩
set_option maxHeartbeats 4000000 in
theorem programRanges_joined:joinedFacts Tryz.prog 4 Tryz.f4 Rows.programRangesSpec Rows.programRangesRow=true:=by
 unfold joinedFacts
 with_reducible repeat' apply and_tt
 all_goals first|(with_reducible exact laidOut7)|(as_aux_lemma=>kernel_rfl)
theorem programRanges_said:Rows.ProgramRangesSaid :=
 OpenClaim.holds_of_wide 4 Tryz.f4 rfl rfl rfl rfl rfl rfl rfl ⟨rfl,rfl,rfl,rfl,rfl⟩ rfl rfl rfl rfl rfl (by kernel_rfl) Tryz.func4 programRanges_joined
  (of_decide_eq_true (by kernel_rfl)) (by unfold Func.isWrapper;first|(rw [if_pos (by decide +kernel)];kernel_rfl)|(rw [if_neg (by decide +kernel)];exact ⟨rfl,rfl⟩))
  (fun os started H enc _=>programRanges_lifted os started H enc)
theorem programRanges_holds:Rows.ProgramRangesCardSaid :=
 Claim7.holds_tied_plain_at .later [] [.data,.data,.data,.sentinel,.sentinel] true _ true
  programRanges_said (fun _ h=>by cases h) (by kernel_rfl) (fun _ h=>by cases h) programRanges_row_tie rfl ⟨rfl,rfl⟩ (by kernel_rfl) rfl
  (fun f fn hf hfn=>by
   obtain rfl:f=4:=Option.some.inj ((show Tryz.prog.funcNamed "klippe/klippelaw07.ProgramRanges"=Option.some 4 by kernel_rfl).symm.trans hf) |>.symm;obtain rfl:fn=Tryz.f4:=(Option.some.inj (Tryz.func4.symm.trans hfn)).symm;exact ⟨by kernel_rfl,fun j t ht=>by
    rw [Tryz.params4] at ht;have hm:t ∈ [26,3]:=by simpa using Array.mem_of_getElem? ht
    have hall:([26,3].all fun u=>!Tryz.prog.wantsStandIn u)=true:=by kernel_rfl
    exact (show Tryz.prog.wantsStandIn t=false by simpa using List.all_eq_true.1 hall t hm)⟩)
  (by kernel_rfl)
#print axioms programRanges_holds
end Go.Proofs.YtmahadmefplbnaaGreatDoor
