/- Part 42. -/
import Derived.Test.YtmahadmefplbnaaGreatDoorQVLB
import Derived.Test.YtmahadmefplbnaaGreatDoorQVL32
import Derived.Test.YtmahadmefplbnaaGreatDoorQVL41
import Derived.SliceStrings
import Derived.Deep.Slices
import Derived.Deep.Strs
import Derived.Carry
set_option maxRecDepth 100000
set_option maxHeartbeats 2000000
open Go.Proofs.Tryz
namespace Go.Proofs.YtmahadmefplbnaaGreatDoor
open Go Go.ChangeShapes Go.WideShapes Go.ChangeAt Go.WideMaps Go.WideElems Go.RowKit Go.Deep
set_option maxRecDepth 100000
theorem wD:laidOutB prog=true:=ag
theorem YP{a b:Bool}(ha:a=true)(hb:b=true):(a && b)=true:=by rw[ha,hb];rfl
theorem Rs.cells{w:World}{ao:Option Addr}{m c:Nat}{t:Nat->ByteArray}(h:Rs w (.slice ao m c) m t):∀ i,i<m->∃ a,ao=some a/\w.cell? (a.add i)=some (.string (t i)):=by
 obtain⟨_,_,e,_,_,hc⟩:=h;cases e;exact hc
theorem addr_add(ab ao n:Nat):(⟨ab,ao,none⟩:Addr).add n=⟨ab,ao+n,none⟩:=by
 unfold Addr.add;split
 ·rename_i h;rw[h,Nat.add_zero]
 ·rfl
theorem Kg{w:World}{a:Addr}{v:Value}(h:w.cell? a=some v):a.spot=none:=by
 unfold World.cell? at h;split at h
 ·cases e:a.spot with
  | none=>rfl
  | some x=>rw[e] at h;simp at h
 ·cases h
theorem qbh{n:Int}(h:(Lit.int .i8 n).wf=true):-128<=n/\n<=127:=by
 simp[Lit.wf,IntKind.min,IntKind.max,IntKind.signed,IntKind.bits] at h;omega
theorem TW{n:Int}(h:(Lit.int .u8 n).wf=true):0<=n/\n<=255:=by
 simp[Lit.wf,IntKind.min,IntKind.max,IntKind.signed,IntKind.bits] at h;omega
section
variable {H:Type} {enc:TypeId × Value->H} {W:World} {base:Nat} {sp:Nat->Bool} {held:Bool}
theorem KG{n:Nat}{cs:List Value}{x:DataW H × List MemPlace}(h:DataW.trod enc prog W base sp held n 24 cs=some x):∃ a b c:Int,(-128<=a/\a<=127)/\(-128<=b/\b<=127)/\(-128<=c/\c<=127)/\cs=[.int .i8 a,.int .i8 b,.int .i8 c]:=by
 obtain⟨xs,m,_,_,hl,hx,hi⟩:=DataW.trod_array underlying24 h;have k:prog.cellsOf 23=1:=ag;have hl:cs.length=3:=hl.trans ag;rw[k] at hi
 match cs,hl with
 | [u,v,z],_ =>
  have each:∀ j,j<3->∃ n,[u,v,z][j]?=some (.int .i8 n)/\-128<=n/\n<=127:=by
   intro j hj;have h1:=hi j hj;rw[Nat.mul_one,List.getElem?_eq_getElem ae] at h1;obtain⟨n,hc,_,wf⟩:=DataW.trod_int underlying23 h1;refine⟨n,?_,qbh wf⟩;have:=congrArg (fun l=>l[0]?) hc;simpa[List.getElem?_take,List.getElem?_drop] using this
  obtain⟨a,ha,ra⟩:=each 0 af;obtain⟨b,hb,rb⟩:=each 1 af;obtain⟨c,hc,rc⟩:=each 2 af;refine⟨a,b,c,ra,rb,rc,?_⟩;simp at ha hb hc;rw[ha,hb,hc]
end
