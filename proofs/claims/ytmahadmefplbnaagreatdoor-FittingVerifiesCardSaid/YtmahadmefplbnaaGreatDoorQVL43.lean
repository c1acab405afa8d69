/- Part 43. -/
import Derived.Test.YtmahadmefplbnaaGreatDoorQVLB
import Derived.Test.YtmahadmefplbnaaGreatDoorQVL38
import Derived.Test.YtmahadmefplbnaaGreatDoorQVL42
set_option maxRecDepth 100000
set_option maxHeartbeats 2000000
open Go.Proofs.Tryz
namespace Go.Proofs.YtmahadmefplbnaaGreatDoor
open Go Go.ChangeShapes Go.WideShapes Go.ChangeAt Go.WideMaps Go.WideElems Go.RowKit Go.Deep
set_option maxRecDepth 100000
section
variable {H:Type} {enc:TypeId × Value->H} {W:World} {base:Nat} {sp:Nat->Bool} {held:Bool}
theorem Kq{n:Nat}{cs:List Value}{x:DataW H × List MemPlace}(h:DataW.trod enc prog W base sp held n 24 cs=some x):∃ f:Nat->Int,(∀ j,-128<=f j/\f j<=127)/\∀ j,j<3->cs[j]?=some (.int .i8 (f j)):=by
 obtain⟨a,b,c,ra,rb,rc,rfl⟩:=KG h;refine⟨fun j=>if j=0 then a else if j=1 then b else c,fun j=>?_,fun j hj=>?_⟩
 ·show -128<=(if j=0 then a else if j=1 then b else c)/\(if j=0 then a else if j=1 then b else c)<=127;split
  ·exact ra
  ·split
   ·exact rb
   ·exact rc
 ·rcases (by omega:j=0∨j=1∨j=2) with rfl|rfl|rfl <;> rfl
theorem CM{n:Nat}{c:Value}{x:DataW H × List MemPlace}(h:DataW.trod enc prog W base sp held n 54 [c]=some x):∃ (wo:Option Addr) (m cap:Nat) (f:Nat->Nat->Int),c = .slice wo m cap/\Y0 W wo m f/\∀ i j,-128<=f i j/\f i j<=127:=by
 rcases open_slice underlying54 h with⟨hc,_⟩|⟨a,len,cap,m,n,D,Pl,LU,_,hl,_,hm,_,hi⟩
 ·obtain rfl:=(List.cons.inj hc).1;exact⟨_,0,0,fun _ _=>0,rfl,fun i hi=>absurd hi (Nat.not_lt_zero i),fun _ _=>⟨by show(-128:Int)<=0;decide,by show(0:Int)<=127;decide⟩⟩
 ·obtain rfl:=(List.cons.inj LU).1;have k:prog.cellsOf 24=3:=ag;rw[k] at hi;have hlm:len<=m:=by rw[hm];split <;> omega
  have each:∀ i,∃ f:Nat->Int,(∀ j,-128<=f j/\f j<=127)/\(i<len->∀ j,j<3->W.cell? (a.add (i*3+j))=some (.int .i8 (f j))):=by
   intro i;by_cases rU:i<len
   ·obtain⟨cs',h1,h2⟩:=hi i ae;obtain⟨f,hf,hj⟩:=Kq h2;refine⟨f,hf,fun _ j hj4=>?_⟩;rw[← hj j hj4,← (World.cells?_some h1).2.2 j hj4,Go.Deep.add_add]
   ·exact⟨fun _=>0,fun _=>⟨by show(-128:Int)<=0;decide,by show(0:Int)<=127;decide⟩,fun h=>absurd h rU⟩
  refine⟨some a,len,cap,fun i=>(each i).choose,rfl,fun i rU=>?_,fun i j=>(each i).choose_spec.1 j⟩;have h3:=(each i).choose_spec.2 rU;have hs:=Kg ((each 0).choose_spec.2 ae 0 af);rw[show a.add (0*3+0)=a from if_pos rfl] at hs;obtain⟨ab,ao,sp_⟩:=a;have hs:sp_=none:=hs;subst hs;refine⟨ab,ao,rfl,fun j hj=>?_⟩;have:=h3 j hj;rwa[addr_add,← Nat.add_assoc] at this
theorem FO {v:Value} {d:DataW H} {p:List MemPlace} (h:DataW.Trod enc prog W base sp held 54 v d p) (hv:∃ a len cap,v = .slice a len cap) :
    ∃ (wo:Option Addr) (m cap:Nat) (f:Nat->Nat->Int),v = .slice wo m cap/\Y0 W wo m f/\∀ i j,-128<=f i j/\f i j<=127:=by
 obtain⟨a,len,cap,rfl⟩:=hv;obtain⟨fuel,hf⟩:=h;exact CM hf
theorem Ac {r:Reach} {b0:Nat} {v:Value} {d:DataW H} {p:List MemPlace} (hv:Value.okWide prog W r b0 88 v) (h:DataW.Trod enc prog W base sp held 88 v d p) :
    ∃ (Gs at_:Int) (lC:ByteArray),v = .agg #[.int .u8 Gs,.int .u8 at_,.string lC]/\(0<=Gs/\Gs<=255)/\(0<=at_/\at_<=255):=by
 obtain⟨cs,rfl,gh⟩:=okWide_struct underlying88 hv;obtain⟨l⟩:=cs
 match l,gh.trans (show prog.cellsOf 88=3 by kernel_rfl) with
 | [c0,c1,c2],_ =>
  obtain⟨fuel,hf⟩:=h;obtain⟨y0,y1,y2,n,_,_,h0,h1,h2⟩:=trod_struct3 underlying88 hf;have k0:prog.cellsOf 5=1:=ag;have k2:prog.cellsOf 34=1:=ag;have h0:DataW.trod enc prog W base sp held n 5 ((([c0,c1,c2]:List Value).drop 0).take (prog.cellsOf 5))=some y0:=h0;have h1:DataW.trod enc prog W base sp held n 5 ((([c0,c1,c2]:List Value).drop 1).take (prog.cellsOf 5))=some y1:=h1;have h2:DataW.trod enc prog W base sp held n 34 ((([c0,c1,c2]:List Value).drop 2).take (prog.cellsOf 34))=some y2:=h2;rw[k0] at h0 h1;rw[k2] at h2;obtain⟨a,e0,_,wf0⟩:=DataW.trod_int underlying5 h0;obtain⟨b,e1,_,wf1⟩:=DataW.trod_int underlying5 h1;obtain⟨s,e2,_⟩:=DataW.trod_string underlying34 h2;rw[(List.cons.inj e0).1,(List.cons.inj e1).1,(List.cons.inj e2).1];exact⟨a,b,s,rfl,TW wf0,TW wf1⟩
end
