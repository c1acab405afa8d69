/- Part 45. -/
import Derived.Test.YtmahadmefplbnaaGreatDoorQFUB
import Derived.Test.YtmahadmefplbnaaGreatDoorQFU39
import Derived.Test.YtmahadmefplbnaaGreatDoorQFU44
set_option maxRecDepth 100000
set_option maxHeartbeats 2000000
namespace Go.Proofs.YtmahadmefplbnaaGreatDoor
open Go Go.ChangeShapes Go.WideShapes Go.ChangeAt Go.WideMaps Go.WideElems Go.RowKit Go.Deep
set_option maxRecDepth 100000
section
variable {H:Type} {enc:TypeId × Value->H} {W:World} {base:Nat} {sp:Nat->Bool} {held:Bool}
theorem xK {n:Nat} {cs:List Value} {x:DataW H × List MemPlace} (h:DataW.trod enc Tryz.prog W base sp held n 24 cs=some x):∃ f:Nat->Int,(∀ j,-128<=f j/\f j<=127)/\∀ j,j<3->cs[j]?=some (.int .i8 (f j)):=by
 obtain ⟨a,b,c,ra,rb,rc,rfl⟩:=xX h;refine ⟨fun j=>if j=0 then a else if j=1 then b else c,fun j=>?_,fun j hj=>?_⟩
 ·show -128<=(if j=0 then a else if j=1 then b else c)/\(if j=0 then a else if j=1 then b else c)<=127;split
  ·exact ra
  ·split
   ·exact rb
   ·exact rc
 ·rcases (by omega:j=0∨j=1∨j=2) with rfl|rfl|rfl <;> rfl
theorem rZ {n:Nat} {c:Value} {x:DataW H × List MemPlace} (h:DataW.trod enc Tryz.prog W base sp held n 54 [c]=some x):∃ (wo:Option Addr) (m cap:Nat) (f:Nat->Nat->Int),c = .slice wo m cap/\DX W wo m f/\∀ i j,-128<=f i j/\f i j<=127:=by
 rcases open_slice Tryz.underlying54 h with ⟨hc,_⟩|⟨a,len,cap,m,n,D,Pl,hcs,_,hl,_,hm,_,hi⟩
 ·obtain rfl:=(List.cons.inj hc).1;exact ⟨_,0,0,fun _ _=>0,rfl,fun i hi=>absurd hi (Nat.not_lt_zero i),fun _ _=>⟨by show (-128:Int)<=0;decide,by show (0:Int)<=127;decide⟩⟩
 ·obtain rfl:=(List.cons.inj hcs).1;have k:Tryz.prog.cellsOf 24=3:=ag;rw [k] at hi;have hlm:len<=m:=by rw [hm];split <;> omega
  have each:∀ i,∃ f:Nat->Int,(∀ j,-128<=f j/\f j<=127)/\(i<len->∀ j,j<3->W.cell? (a.add (i*3+j))=some (.int .i8 (f j))):=by
   intro i;by_cases hil:i<len
   ·obtain ⟨cs',h1,h2⟩:=hi i ae;obtain ⟨f,hf,hj⟩:=xK h2;refine ⟨f,hf,fun _ j hj4=>?_⟩;rw [← hj j hj4,← (World.cells?_some h1).2.2 j hj4,Go.Deep.add_add]
   ·exact ⟨fun _=>0,fun _=>⟨by show (-128:Int)<=0;decide,by show (0:Int)<=127;decide⟩,fun h=>absurd h hil⟩
  refine ⟨some a,len,cap,fun i=>(each i).choose,rfl,fun i hil=>?_,fun i j=>(each i).choose_spec.1 j⟩;have h3:=(each i).choose_spec.2 hil;have hs:=pg ((each 0).choose_spec.2 ae 0 af);rw [show a.add (0*3+0)=a from if_pos rfl] at hs;obtain ⟨ab,ao,sp_⟩:=a;have hs:sp_=none:=hs;subst hs;refine ⟨ab,ao,rfl,fun j hj=>?_⟩;have:=h3 j hj;rwa [addr_add,← Nat.add_assoc] at this
theorem nt {v:Value} {d:DataW H} {p:List MemPlace} (h:DataW.Trod enc Tryz.prog W base sp held 54 v d p) (hv:∃ a len cap,v = .slice a len cap) :
    ∃ (wo:Option Addr) (m cap:Nat) (f:Nat->Nat->Int),v = .slice wo m cap/\DX W wo m f/\∀ i j,-128<=f i j/\f i j<=127:=by
 obtain ⟨a,len,cap,rfl⟩:=hv;obtain ⟨fuel,hf⟩:=h;exact rZ hf
end
end Go.Proofs.YtmahadmefplbnaaGreatDoor
