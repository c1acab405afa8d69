/- Part 40. -/
import Derived.Test.YtmahadmefplbnaaGreatDoorQTDB
import Derived.Test.YtmahadmefplbnaaGreatDoorQTD35
import Derived.Test.YtmahadmefplbnaaGreatDoorQTD39
import Derived.SliceStrings
import Derived.Deep.Slices
import Derived.Deep.Strs
import Derived.Carry
set_option maxRecDepth 100000
set_option maxHeartbeats 2000000
open Go.Proofs.Tryz
namespace Go.Proofs.YtmahadmefplbnaaGreatDoor
open Go Go.ChangeShapes Go.WideShapes Go.ChangeAt Go.WideMaps Go.WideElems Go.RowKit Go.Deep
set_option maxRecDepth 100000
theorem qY:laidOutB prog=true:=ag
theorem C9{a b:Bool}(ha:a=true)(hb:b=true):(a && b)=true:=by rw[ha,hb];rfl
theorem Rs.cells{w:World}{ao:Option Addr}{m c:Nat}{t:Nat->ByteArray}(h:Rs w (.slice ao m c) m t):∀ i,i<m->∃ a,ao=some a/\w.cell? (a.add i)=some (.string (t i)):=by
 obtain⟨_,_,e,_,_,hc⟩:=h;cases e;exact hc
theorem addr_add(ab ao n:Nat):(⟨ab,ao,none⟩:Addr).add n=⟨ab,ao+n,none⟩:=by
 unfold Addr.add;split
 ·rename_i h;rw[h,Nat.add_zero]
 ·rfl
theorem uR{w:World}{a:Addr}{v:Value}(h:w.cell? a=some v):a.spot=none:=by
 unfold World.cell? at h;split at h
 ·cases e:a.spot with
  | none=>rfl
  | some x=>rw[e] at h;simp at h
 ·cases h
theorem Bu{n:Int}(h:(Lit.int .i8 n).wf=true):-128<=n/\n<=127:=by
 simp[Lit.wf,IntKind.min,IntKind.max,IntKind.signed,IntKind.bits] at h;omega
theorem Dp{n:Int}(h:(Lit.int .u8 n).wf=true):0<=n/\n<=255:=by
 simp[Lit.wf,IntKind.min,IntKind.max,IntKind.signed,IntKind.bits] at h;omega
section
variable {H:Type} {enc:TypeId × Value->H} {W:World} {base:Nat} {sp:Nat->Bool} {held:Bool}
theorem u7{n:Nat}{cs:List Value}{x:DataW H × List MemPlace}(h:DataW.trod enc prog W base sp held n 94 cs=some x):∃ f:Nat->Int,(∀ j,-128<=f j/\f j<=127)/\∀ j,j<4->cs[j]?=some (.int .i8 (f j)):=by
 obtain⟨xs,m,_,_,hl,hx,hi⟩:=DataW.trod_array underlying94 h;have k:prog.cellsOf 23=1:=ag;have hl:cs.length=4:=hl.trans ag;rw[k] at hi;have each:∀ j,j<4->∃ n,cs[j]?=some (.int .i8 n)/\-128<=n/\n<=127:=by
  intro j hj;have h1:=hi j hj;rw[Nat.mul_one,List.getElem?_eq_getElem ae] at h1;obtain⟨n,hc,_,wf⟩:=DataW.trod_int underlying23 h1;refine⟨n,?_,Bu wf⟩;have:=congrArg (fun l=>l[0]?) hc;simpa[List.getElem?_take,List.getElem?_drop] using this
 obtain⟨a,ha,ra⟩:=each 0 af;obtain⟨b,hb,rb⟩:=each 1 af;obtain⟨c,hc,rc⟩:=each 2 af;obtain⟨d,hd,rd⟩:=each 3 af;refine⟨fun j=>if j=0 then a else if j=1 then b else if j=2 then c else d,fun j=>?_,fun j hj=>?_⟩
 ·show -128<=(if j=0 then a else if j=1 then b else if j=2 then c else d)/\(if j=0 then a else if j=1 then b else if j=2 then c else d)<=127;split
  ·exact ra
  ·split
   ·exact rb
   ·split
    ·exact rc
    ·exact rd
 ·match j,hj with
  | 0,_=>exact ha
  | 1,_=>exact hb
  | 2,_=>exact hc
  | 3,_=>exact hd
theorem vF{n:Nat}{cs:List Value}{x:DataW H × List MemPlace}(h:DataW.trod enc prog W base sp held n 24 cs=some x):∃ a b c:Int,(-128<=a/\a<=127)/\(-128<=b/\b<=127)/\(-128<=c/\c<=127)/\cs=[.int .i8 a,.int .i8 b,.int .i8 c]:=by
 obtain⟨xs,m,_,_,hl,hx,hi⟩:=DataW.trod_array underlying24 h;have k:prog.cellsOf 23=1:=ag;have hl:cs.length=3:=hl.trans ag;rw[k] at hi
 match cs,hl with
 | [u,v,z],_ =>
  have each:∀ j,j<3->∃ n,[u,v,z][j]?=some (.int .i8 n)/\-128<=n/\n<=127:=by
   intro j hj;have h1:=hi j hj;rw[Nat.mul_one,List.getElem?_eq_getElem ae] at h1;obtain⟨n,hc,_,wf⟩:=DataW.trod_int underlying23 h1;refine⟨n,?_,Bu wf⟩;have:=congrArg (fun l=>l[0]?) hc;simpa[List.getElem?_take,List.getElem?_drop] using this
  obtain⟨a,ha,ra⟩:=each 0 af;obtain⟨b,hb,rb⟩:=each 1 af;obtain⟨c,hc,rc⟩:=each 2 af;refine⟨a,b,c,ra,rb,rc,?_⟩;simp at ha hb hc;rw[ha,hb,hc]
theorem u5{n:Nat}{c:Value}{x:DataW H × List MemPlace}(h:DataW.trod enc prog W base sp held n 22 [c]=some x):∃ (wo:Option Addr) (m cap:Nat) (f:Nat->Nat->Int),c = .slice wo m cap/\Di W wo m f/\∀ i j,-128<=f i j/\f i j<=127:=by
 rcases open_slice underlying22 h with⟨hc,_⟩|⟨a,len,cap,m,n,D,Pl,hcs,_,hl,_,hm,_,hi⟩
 ·obtain rfl:=(List.cons.inj hc).1;exact⟨_,0,0,fun _ _=>0,rfl,fun i hi=>absurd hi (Nat.not_lt_zero i),fun _ _=>⟨by show(-128:Int)<=0;decide,by show(0:Int)<=127;decide⟩⟩
 ·obtain rfl:=(List.cons.inj hcs).1;have k:prog.cellsOf 94=4:=ag;rw[k] at hi;have hlm:len<=m:=by rw[hm];split <;> omega
  have each:∀ i,∃ f:Nat->Int,(∀ j,-128<=f j/\f j<=127)/\(i<len->∀ j,j<4->W.cell? (a.add (i*4+j))=some (.int .i8 (f j))):=by
   intro i;by_cases hil:i<len
   ·obtain⟨cs',h1,h2⟩:=hi i ae;obtain⟨f,hf,hj⟩:=u7 h2;refine⟨f,hf,fun _ j hj4=>?_⟩;rw[← hj j hj4,← (World.cells?_some h1).2.2 j hj4,Go.Deep.add_add]
   ·exact⟨fun _=>0,fun _=>⟨by show(-128:Int)<=0;decide,by show(0:Int)<=127;decide⟩,fun h=>absurd h hil⟩
  refine⟨some a,len,cap,fun i=>(each i).choose,rfl,fun i hil=>?_,fun i j=>(each i).choose_spec.1 j⟩;have h3:=(each i).choose_spec.2 hil;have hs:=uR ((each 0).choose_spec.2 ae 0 af);rw[show a.add (0*4+0)=a from if_pos rfl] at hs;obtain⟨ab,ao,sp_⟩:=a;have hs:sp_=none:=hs;subst hs;refine⟨ab,ao,rfl,fun j hj=>?_⟩;have:=h3 j hj;rwa[addr_add,← Nat.add_assoc] at this
theorem vA {r:Reach} {b0:Nat} {v:Value} {d:DataW H} {p:List MemPlace} (hv:Value.okWide prog W r b0 26 v) (h:DataW.Trod enc prog W base sp held 26 v d p) :
    ∃ (vv:Int) (m wcap:Nat) (wo:Option Addr) (c:Nat->Nat->Int) (o0 o1 o2:Int),v = .agg #[.int .u8 vv,.slice wo m wcap,.int .i8 o0,.int .i8 o1,.int .i8 o2]/\wF W vv m wo c o0 o1 o2:=by
 obtain⟨cs,rfl,hsz⟩:=okWide_struct underlying26 hv;obtain⟨l⟩:=cs
 match l,hsz.trans (show prog.cellsOf 26=5 by kernel_rfl) with
 | [c0,c1,c2,c3,c4],_ =>
  obtain⟨fuel,hf⟩:=h;obtain⟨y0,y1,y2,n,_,_,h0,h1,h2⟩:=trod_struct3 underlying26 hf;have k0:prog.cellsOf 5=1:=ag;have k1:prog.cellsOf 22=1:=ag;have k2:prog.cellsOf 24=3:=ag;have h0:DataW.trod enc prog W base sp held n 5 ((([c0,c1,c2,c3,c4]:List Value).drop 0).take (prog.cellsOf 5))=some y0:=h0;have h1:DataW.trod enc prog W base sp held n 22 ((([c0,c1,c2,c3,c4]:List Value).drop 1).take (prog.cellsOf 22))=some y1:=h1;have h2:DataW.trod enc prog W base sp held n 24 ((([c0,c1,c2,c3,c4]:List Value).drop 2).take (prog.cellsOf 24))=some y2:=h2;rw[k0] at h0;rw[k1] at h1;rw[k2] at h2;obtain⟨vv,e0,_,wf⟩:=DataW.trod_int underlying5 h0;obtain rfl:c0=_:=(List.cons.inj e0).1;obtain⟨wo,m,wcap,c,rfl,hp,hc⟩:=u5 h1;obtain⟨a,b,d,ha,hb,hd,e2⟩:=vF h2;have e2:[c2,c3,c4]=[.int .i8 a,.int .i8 b,.int .i8 d]:=e2;obtain⟨ea,e2⟩:=List.cons.inj e2;obtain⟨eb,e2⟩:=List.cons.inj e2;have ec:=(List.cons.inj e2).1;rw[ea,eb,ec];exact⟨vv,m,wcap,wo,c,a,b,d,rfl,Dp wf,hp,hc,ha,hb,hd⟩
end
end Go.Proofs.YtmahadmefplbnaaGreatDoor
