/- FittingPlanes: for every input the law returns true and each argument reads as before; the listed variables are tied to the program's text. -/
import Derived.Test.YtmahadmefplbnaaGreatDoorQFVB
import Derived.Test.YtmahadmefplbnaaGreatDoorQFV37
import Derived.Test.YtmahadmefplbnaaGreatDoorQFV40
set_option maxRecDepth 100000
set_option maxHeartbeats 2000000
open Go.Proofs.Tryz
namespace Go.Proofs.YtmahadmefplbnaaGreatDoor
open Go Go.ChangeShapes Go.WideShapes Go.ChangeAt Go.WideMaps Go.WideElems Go.RowKit Go.Deep
set_option maxRecDepth 100000
section
variable {H:Type} {enc:TypeId × Value->H} {W:World} {base:Nat} {sp:Nat->Bool} {held:Bool}
theorem xL{n:Nat}{cs:List Value}{x:DataW H × List MemPlace}(h:DataW.trod enc prog W base sp held n 24 cs=some x):∃ f:Nat->Int,(∀ j,-128<=f j/\f j<=127)/\∀ j,j<3->cs[j]?=some (.int .i8 (f j)):=by
 obtain⟨a,b,c,ra,rb,rc,rfl⟩:=xZ h;refine⟨fun j=>if j=0 then a else if j=1 then b else c,fun j=>?_,fun j hj=>?_⟩
 ·show -128<=(if j=0 then a else if j=1 then b else c)/\(if j=0 then a else if j=1 then b else c)<=127;split
  ·exact ra
  ·split
   ·exact rb
   ·exact rc
 ·rcases (by omega:j=0∨j=1∨j=2) with rfl|rfl|rfl <;> rfl
theorem rQ{n:Nat}{c:Value}{x:DataW H × List MemPlace}(h:DataW.trod enc prog W base sp held n 54 [c]=some x):∃ (wo:Option Addr) (m cap:Nat) (f:Nat->Nat->Int),c = .slice wo m cap/\F4 W wo m f/\∀ i j,-128<=f i j/\f i j<=127:=by
 rcases open_slice underlying54 h with⟨hc,_⟩|⟨a,len,cap,m,n,D,Pl,hcs,_,hl,_,hm,_,hi⟩
 ·obtain rfl:=(List.cons.inj hc).1;exact⟨_,0,0,fun _ _=>0,rfl,fun i hi=>absurd hi (Nat.not_lt_zero i),fun _ _=>⟨by show(-128:Int)<=0;decide,by show(0:Int)<=127;decide⟩⟩
 ·obtain rfl:=(List.cons.inj hcs).1;have k:prog.cellsOf 24=3:=ag;rw[k] at hi;have hlm:len<=m:=by rw[hm];split <;> omega
  have each:∀ i,∃ f:Nat->Int,(∀ j,-128<=f j/\f j<=127)/\(i<len->∀ j,j<3->W.cell? (a.add (i*3+j))=some (.int .i8 (f j))):=by
   intro i;by_cases hil:i<len
   ·obtain⟨cs',h1,h2⟩:=hi i ae;obtain⟨f,hf,hj⟩:=xL h2;refine⟨f,hf,fun _ j hj4=>?_⟩;rw[← hj j hj4,← (World.cells?_some h1).2.2 j hj4,Go.Deep.add_add]
   ·exact⟨fun _=>0,fun _=>⟨by show(-128:Int)<=0;decide,by show(0:Int)<=127;decide⟩,fun h=>absurd h hil⟩
  refine⟨some a,len,cap,fun i=>(each i).choose,rfl,fun i hil=>?_,fun i j=>(each i).choose_spec.1 j⟩;have h3:=(each i).choose_spec.2 hil;have hs:=xC ((each 0).choose_spec.2 ae 0 af);rw[show a.add (0*3+0)=a from if_pos rfl] at hs;obtain⟨ab,ao,sp_⟩:=a;have hs:sp_=none:=hs;subst hs;refine⟨ab,ao,rfl,fun j hj=>?_⟩;have:=h3 j hj;rwa[addr_add,← Nat.add_assoc] at this
theorem uc {v:Value} {d:DataW H} {p:List MemPlace} (h:DataW.Trod enc prog W base sp held 54 v d p) (hv:∃ a len cap,v = .slice a len cap) :
    ∃ (wo:Option Addr) (m cap:Nat) (f:Nat->Nat->Int),v = .slice wo m cap/\F4 W wo m f/\∀ i j,-128<=f i j/\f i j<=127:=by
 obtain⟨a,len,cap,rfl⟩:=hv;obtain⟨fuel,hf⟩:=h;exact rQ hf
end
end Go.Proofs.YtmahadmefplbnaaGreatDoor
namespace Go.Proofs.YtmahadmefplbnaaGreatDoor
open Go Go.ChangeShapes Go.WideShapes Go.ChangeAt Go.WideMaps Go.WideElems Go.RowKit
set_option maxRecDepth 100000
theorem iM (os:Os) (started:os.Started) (H:Type) (enc:TypeId × Value->H) :
    ReturnsInHanded {} checked os 8 .any (fun w args=>(Rows.fittingPlanesSpec.pre enc prog f8 [] false w args/\laidMetH prog sA w)/\sizedMet enc prog f8 (OpenSpec.ofChange Rows.fittingPlanesSpec) false w args)
     (Rows.fittingPlanesSpec.post enc prog f8 false true false false):=by
 refine returnsInHanded_of_change_and (C:=checked) (X:=fun w _=>laidMetH prog sA w) (fun _ _ _ hh h=>h.of_heap hh) own started ag func8
  (ChangeSpec.witness_shaped (enc:=enc) (C:=checked) (os:=os) (X:=fun w _=>laidMetH prog sA w) false (World.doorLaid prog 62 os) #[.slice none 0 0] 8 rfl (World.shaped_of_RefB ag ag) ag ag ag (Bc os _)) ?_
 intro W base args ds gs before hval0 hW _ _ hL _;have hval:∀ (j:Nat) t v,f8.params[j]?=Option.some t->args[j]?=Option.some v->Value.okWide prog W .any base t v:=hval0;have hW':=hW;obtain⟨p,q,hA0,hV,rfl,hfz,hnd⟩:=hW;have hA:DataW.TrodAll enc prog W 0 (fun _=>true) true f8.params.toList args.toList ds p:=hA0;rw[params8] at hA hval;obtain⟨v0,d0,rfl,rfl,h0⟩:=trodAll_one hA;obtain⟨rfl,rfl⟩:=trodVars_none hV;obtain⟨wo,m,wcap,c,rfl,hw,hc⟩:=uc h0 (okWide_slice underlying54 (hval 0 54 v0 rfl rfl));have g:=uO hL;have hlt:=fun x hx=>hW'.lt x hx
 refine(r8 wo m wcap c W g hw hc).mono fun e W' ⟨he,hw⟩=>?_
 subst he;exact⟨_,rfl,oq hW' (fun _ _ _=>trodAll_mk1 (shut_bool underlying4 _)) (fun sp hsp=>trodAll_mk1 (Trod_stays (P:=prog) sy ag (of_decide_eq_true ag) h0 (fun x hx=>hw.below.same (hlt x (by simp only[List.append_nil];exact hx))) (fun x hx=>hsp x (by simp only[List.append_nil];exact hx)))) (fun _ _=>rfl) rfl hw.below (ok_one ag rfl (okWide_bool_mk underlying4 _))⟩
set_option maxHeartbeats 4000000 in
theorem iN:joinedFacts prog 8 f8 Rows.fittingPlanesSpec Rows.fittingPlanesRow=true:=by
 unfold joinedFacts
 with_reducible repeat' apply FX
 all_goals first|(with_reducible exact sy)|(as_aux_lemma=>kernel_rfl)
theorem jG:Rows.FittingPlanesSaid :=
 OpenClaim.holds_of_wide 8 f8 rfl rfl rfl rfl rfl rfl rfl ⟨rfl,rfl,rfl,rfl,rfl⟩ rfl rfl rfl rfl rfl ag func8 iN
  (of_decide_eq_true ag) (by unfold Func.isWrapper;first|(rw[if_pos (by decide +kernel)];kernel_rfl)|(rw[if_neg (by decide +kernel)];exact⟨rfl,rfl⟩))
  (fun os started H enc _=>iM os started H enc)
theorem fittingPlanes_holds:Rows.FittingPlanesCardSaid :=
 Claim7.holds_tied_plain_at .later [] [.data,.data,.data,.sentinel,.sentinel] true _ true
  jG (fun _ h=>by cases h) ag (fun _ h=>by cases h) fittingPlanes_row_tie rfl ⟨rfl,rfl⟩ ag rfl
  (fun f fn hf hfn=>by
   obtain rfl:f=8:=Option.some.inj ((show prog.funcNamed "klippe/klippelaw19.FittingPlanes"=Option.some 8 by kernel_rfl).symm.trans hf) |>.symm;obtain rfl:fn=f8:=(Option.some.inj (func8.symm.trans hfn)).symm;exact⟨ag,fun j t ht=>by
    rw[params8] at ht;have hm:t ∈ [54]:=by simpa using Array.mem_of_getElem? ht
    have hall:([54].all fun u=>!prog.wantsStandIn u)=true:=ag;exact(show prog.wantsStandIn t=false by simpa using List.all_eq_true.1 hall t hm)⟩)
  ag
#print axioms fittingPlanes_holds
end Go.Proofs.YtmahadmefplbnaaGreatDoor
