/- Part 40. -/
import Derived.Test.YtmahadmefplbnaaGreatDoorQVLA
import Derived.ChangeSame
import Derived.ChangeArms
import Derived.OpenShut
import Derived.Below
set_option maxRecDepth 100000
set_option maxHeartbeats 2000000
namespace Go.Proofs.YtmahadmefplbnaaGreatDoor
open Go Go.RowKit Go.ChangeShapes Go.WideShapes
inductive Lf where
 | b
 | i (k:IntKind)
 | s
def Lf.fits:Lf->Value->Prop
 | .b,v=>∃ b,v = .bool b
 | .i k,v=>∃ n,v = .int k n/\(Lit.int k n).wf=true
 | .s,v=>∃ s,v = .string s/\s.size<=maxLen
def EX:List Lf->List Value->Prop
 | [],cs=>cs=[]
 | l :: ls,cs=>∃ v vs,cs=v :: vs/\l.fits v/\EX ls vs
theorem EX.append:∀ {l l':List Lf} {c c':List Value},EX l c->EX l' c'->EX (l ++ l') (c ++ c')
 | [],_,_,_,h,h'=>by cases h;exact h'
 | _ :: _,_,_,_,h,h'=>by
  obtain⟨v,vs,rfl,hv,hs⟩:=h;exact⟨v,vs ++ _,rfl,hv,hs.append h'⟩
section
variable {H:Type} {enc:TypeId × Value->H} {P:Program}
theorem x8 {f:Func} {s:ChangeSpec} {apart fresh handsOn again:Bool} {W W':World} {args:Array Value} {v:Value} {ds gs:List (DataW H)} {before pa pv:List MemPlace}
    (hW:DataW.Whole enc P f.params.toList s.vars apart W args.toList ds gs before)
    (hres:∀ (b:Nat) (sp:Nat->Bool) (hd:Bool),DataW.TrodAll enc P W' b sp hd f.resultTypes.toList (v.resultList f.resultTypes.size) (s.fn H (ds ++ gs)).results [])
    (hargs:∀ sp:Nat->Bool,(∀ p ∈ before,sp p.block=true)->DataW.TrodAll enc P W' 0 sp true f.params.toList args.toList (s.fn H (ds ++ gs)).args pa)
    (hvars:∀ sp:Nat->Bool,(∀ p ∈ before,sp p.block=true)->DataW.TrodVars enc P W' sp s.vars (s.fn H (ds ++ gs)).vars pv)
    (hps:before=pa ++ pv) (hb:Below W.heap.size W W')
    (hok:∀ (j:Nat) (t:TypeId) (r:Value),f.resultTypes[j]?=some t->(v.resultList f.resultTypes.size)[j]?=some r->Value.okWide P W' .any 0 t r) :
    s.post enc P f apart fresh handsOn again W args v W':=by
 have aP:∀ p ∈ before,p.block<W.heap.size:=fun p hp=>hW.lt p hp
 have hold:∀ p ∈ before,(fun b=>decide (b<W.heap.size)) p.block=true:=fun p hp=>by simpa using aP p hp
 refine⟨ds,gs,before,[],pa,pv,hW,hres _ _ _,hargs _ hold,hvars _ hold,World.keptBut_mono (fun p hp=>⟨hp,?_⟩) (hb.frame (· ∈ before)),fun _=>?_⟩
 ·rw[hps,List.mem_append] at hp;exact Or.inr hp
 ·obtain⟨_,_,_,_,_,hz,hn⟩:=hW;refine⟨hok,_,_,([] ++ pa) ++ pv,⟨[] ++ pa,pv,trodAll_append (hargs _ (fun _ _=>rfl)) (hres _ _ _),hvars _ (fun _ _=>rfl),rfl,?_,?_⟩,?_⟩
  ·intro b off hp;have jL:MemPlace.cell b off ∈ before:=by rw[hps];simpa using hp
   rw[hb.frozen (aP _ jL)];exact hz b off jL
  ·intro ha;have:=hn ha;rw[hps] at this;simpa using this
  ·intro p hp _;rw[hps];simpa using hp
end
