/- FittingPlaces: for every input the law returns true and each argument reads as before; the listed variables are tied to the program's text. -/
import Derived.Test.YtmahadmefplbnaaGreatDoorQFUB
import Derived.Test.YtmahadmefplbnaaGreatDoorQFU43
import Derived.Test.YtmahadmefplbnaaGreatDoorQFU50
set_option maxRecDepth 100000
set_option maxHeartbeats 2000000
namespace Go.Proofs.YtmahadmefplbnaaGreatDoor
open Go Go.ChangeShapes Go.WideShapes Go.ChangeAt Go.WideMaps Go.WideElems Go.RowKit Go.Deep
set_option maxRecDepth 100000
section
variable {H:Type} {enc:TypeId × Value->H} {W:World} {base:Nat} {sp:Nat->Bool} {held:Bool}
theorem rM {n:Nat} {cs:List Value} {x:DataW H × List MemPlace} (h:DataW.trod enc Tryz.prog W base sp held n 67 cs=some x) (hl:cs.length=3):∃ t:T3,cs=[.string t.x,.string t.y,.string t.z]:=by
 match cs,hl with
 | [c0,c1,c2],_ =>
  obtain ⟨y0,y1,y2,n,_,_,h0,h1,h2⟩:=trod_struct3 Tryz.underlying67 h;have k2:Tryz.prog.cellsOf 34=1:=ag;have h0:DataW.trod enc Tryz.prog W base sp held n 34 ((([c0,c1,c2]:List Value).drop 0).take (Tryz.prog.cellsOf 34))=some y0:=h0;have h1:DataW.trod enc Tryz.prog W base sp held n 34 ((([c0,c1,c2]:List Value).drop 1).take (Tryz.prog.cellsOf 34))=some y1:=h1;have h2:DataW.trod enc Tryz.prog W base sp held n 34 ((([c0,c1,c2]:List Value).drop 2).take (Tryz.prog.cellsOf 34))=some y2:=h2;rw [k2] at h0 h1 h2;obtain ⟨a,e0,_⟩:=DataW.trod_string Tryz.underlying34 h0;obtain ⟨b,e1,_⟩:=DataW.trod_string Tryz.underlying34 h1;obtain ⟨c,e2,_⟩:=DataW.trod_string Tryz.underlying34 h2;exact ⟨⟨a,b,c⟩,by rw [(List.cons.inj e0).1,(List.cons.inj e1).1,(List.cons.inj e2).1]⟩
theorem xt {v:Value} {d:DataW H} {p:List MemPlace} (h:DataW.Trod enc Tryz.prog W base sp held 55 v d p) (hv:∃ a len cap,v = .slice a len cap) :
    ∃ (vo:Option Addr) (n cap:Nat) (t:Nat->T3),v = .slice vo n cap/\mH W vo n t/\n<=maxLen:=by
 obtain ⟨a0,len0,cap0,rfl⟩:=hv;obtain ⟨fuel,hf⟩:=h;rcases open_slice Tryz.underlying55 hf with ⟨hc,_⟩|⟨a,len,cap,m,n,D,Pl,hcs,_,hl,hcm,hm,_,hi⟩
 ·have:=(List.cons.inj hc).1;obtain ⟨rfl,rfl,rfl⟩:a0=none/\len0=0/\cap0=0:=Value.slice.inj this;exact ⟨_,0,0,fun _=>⟨⟨#[]⟩,⟨#[]⟩,⟨#[]⟩⟩,rfl,fun i hi=>absurd hi (Nat.not_lt_zero i),Nat.zero_le _⟩
 ·obtain ⟨rfl,rfl,rfl⟩:a0=some a/\len0=len/\cap0=cap:=Value.slice.inj (List.cons.inj hcs).1;have k:Tryz.prog.cellsOf 67=3:=ag;rw [k] at hi;have hlm:len0<=m:=by rw [hm];split <;> omega
  by_cases h0:0<len0
  ·have hs:a.spot=none:=by
    obtain ⟨cs',h1,h2⟩:=hi 0 ae;have hc:=World.cells?_some h1;obtain ⟨t,rfl⟩:=rM h2 hc.2.1;have:=pg (hc.2.2 0 af);rwa [Go.Deep.add_add,show a.add (0*3+0)=a from if_pos rfl] at this
   obtain ⟨ab,ao,sp_⟩:=a;have hs:sp_=none:=hs;subst hs;have each:∀ i,∃ t:T3,i<len0->W.cell? ⟨ab,ao+i*3,none⟩=some (.string t.x)/\W.cell? ⟨ab,ao+i*3+1,none⟩=some (.string t.y)/\W.cell? ⟨ab,ao+i*3+2,none⟩=some (.string t.z):=by
    intro i;by_cases hil:i<len0
    ·obtain ⟨cs',h1,h2⟩:=hi i ae;have hc:=World.cells?_some h1;obtain ⟨t,rfl⟩:=rM h2 hc.2.1;refine ⟨t,fun _=>⟨?_,?_,?_⟩⟩
     ·have:=hc.2.2 0 af;rwa [Go.Deep.add_add,Nat.add_zero,addr_add] at this
     ·have:=hc.2.2 1 af;rwa [Go.Deep.add_add,addr_add,← Nat.add_assoc] at this
     ·have:=hc.2.2 2 af;rwa [Go.Deep.add_add,addr_add,← Nat.add_assoc] at this
    ·exact ⟨⟨⟨#[]⟩,⟨#[]⟩,⟨#[]⟩⟩,fun h=>absurd h hil⟩
   exact ⟨_,_,_,fun i=>(each i).choose,rfl,fun i hil=>⟨ab,ao,rfl,(each i).choose_spec hil⟩,Nat.le_trans hl hcm⟩
  ·exact ⟨_,_,_,fun _=>⟨⟨#[]⟩,⟨#[]⟩,⟨#[]⟩⟩,rfl,fun i hil=>absurd hil ae,Nat.le_trans hl hcm⟩
end
end Go.Proofs.YtmahadmefplbnaaGreatDoor
namespace Go.Proofs.YtmahadmefplbnaaGreatDoor
open Go Go.ChangeShapes Go.WideShapes Go.ChangeAt Go.WideMaps Go.WideElems Go.RowKit
set_option maxRecDepth 100000
theorem iG (os:Os) (started:os.Started) (H:Type) (enc:TypeId × Value->H) :
    ReturnsInHanded {} Tryz.checked os 9 .any (fun w args=>(Rows.fittingPlacesSpec.pre enc Tryz.prog Tryz.f9 [] false w args/\laidMetH Tryz.prog iz w)/\sizedMet enc Tryz.prog Tryz.f9 (OpenSpec.ofChange Rows.fittingPlacesSpec) false w args)
     (Rows.fittingPlacesSpec.post enc Tryz.prog Tryz.f9 false true false false):=by
 refine returnsInHanded_of_change_and (C:=Tryz.checked) (X:=fun w _=>laidMetH Tryz.prog iz w) (fun _ _ _ hh h=>h.of_heap hh) own started ag Tryz.func9
  (ChangeSpec.witness_shaped (enc:=enc) (C:=Tryz.checked) (os:=os) (X:=fun w _=>laidMetH Tryz.prog iz w) false (World.doorLaid Tryz.prog 62 os) #[.slice none 0 0] 8 rfl (World.shaped_of_RefB ag ag) ag ag ag (ot os _)) ?_
 intro W base args ds gs before hval0 hW _ _ hL _;have hval:∀ (j:Nat) t v,Tryz.f9.params[j]?=Option.some t->args[j]?=Option.some v->Value.okWide Tryz.prog W .any base t v:=hval0;have hW':=hW;obtain ⟨p,q,hA0,hV,rfl,hfz,hnd⟩:=hW;have hA:DataW.TrodAll enc Tryz.prog W 0 (fun _=>true) true Tryz.f9.params.toList args.toList ds p:=hA0;rw [Tryz.params9] at hA hval;obtain ⟨v0,d0,rfl,rfl,h0⟩:=trodAll_one hA;obtain ⟨rfl,rfl⟩:=trodVars_none hV;obtain ⟨vo,n,cap,t,rfl,hl,hnm⟩:=xt h0 (okWide_slice Tryz.underlying55 (hval 0 55 v0 rfl rfl));have g:=jL hL;have hlt:=fun x hx=>hW'.lt x hx
 refine (sj vo n cap t W g hl hnm).mono fun e W' ⟨he,hw⟩=>?_
 subst he;exact ⟨_,rfl,fW hW' (fun _ _ _=>trodAll_mk1 (shut_bool Tryz.underlying4 _)) (fun sp hsp=>trodAll_mk1 (Trod_stays (P:=Tryz.prog) gx ag (of_decide_eq_true ag) h0 (fun x hx=>hw.below.same (hlt x (by simp only [List.append_nil];exact hx))) (fun x hx=>hsp x (by simp only [List.append_nil];exact hx)))) (fun _ _=>rfl) rfl hw.below (ok_one ag rfl (okWide_bool_mk Tryz.underlying4 _))⟩
set_option maxHeartbeats 4000000 in
theorem iH:joinedFacts Tryz.prog 9 Tryz.f9 Rows.fittingPlacesSpec Rows.fittingPlacesRow=true:=by
 unfold joinedFacts
 with_reducible repeat' apply vC
 all_goals first|(with_reducible exact gx)|(as_aux_lemma=>kernel_rfl)
theorem jM:Rows.FittingPlacesSaid :=
 OpenClaim.holds_of_wide 9 Tryz.f9 rfl rfl rfl rfl rfl rfl rfl ⟨rfl,rfl,rfl,rfl,rfl⟩ rfl rfl rfl rfl rfl ag Tryz.func9 iH
  (of_decide_eq_true ag) (by unfold Func.isWrapper;first|(rw [if_pos (by decide +kernel)];kernel_rfl)|(rw [if_neg (by decide +kernel)];exact ⟨rfl,rfl⟩))
  (fun os started H enc _=>iG os started H enc)
theorem fittingPlaces_holds:Rows.FittingPlacesCardSaid :=
 Claim7.holds_tied_plain_at .later [] [.data,.data,.data,.sentinel,.sentinel] true _ true
  jM (fun _ h=>by cases h) ag (fun _ h=>by cases h) fittingPlaces_row_tie rfl ⟨rfl,rfl⟩ ag rfl
  (fun f fn hf hfn=>by
   obtain rfl:f=9:=Option.some.inj ((show Tryz.prog.funcNamed "klippe/klippelaw19.FittingPlaces"=Option.some 9 by kernel_rfl).symm.trans hf) |>.symm;obtain rfl:fn=Tryz.f9:=(Option.some.inj (Tryz.func9.symm.trans hfn)).symm;exact ⟨ag,fun j t ht=>by
    rw [Tryz.params9] at ht;have hm:t ∈ [55]:=by simpa using Array.mem_of_getElem? ht
    have hall:([55].all fun u=>!Tryz.prog.wantsStandIn u)=true:=ag;exact (show Tryz.prog.wantsStandIn t=false by simpa using List.all_eq_true.1 hall t hm)⟩)
  ag
#print axioms fittingPlaces_holds
end Go.Proofs.YtmahadmefplbnaaGreatDoor
