/- Part 44. -/
import Derived.Test.YtmahadmefplbnaaGreatDoorQFUB
import Derived.Test.YtmahadmefplbnaaGreatDoorQFU43
set_option maxRecDepth 100000
set_option maxHeartbeats 2000000
namespace Go.Proofs.YtmahadmefplbnaaGreatDoor
open Go Go.ChangeShapes Go.WideShapes Go.ChangeAt Go.WideMaps Go.WideElems Go.RowKit Go.Deep
set_option maxRecDepth 100000
theorem Gr {n:Int} (h:(Lit.int .i8 n).wf=true):-128<=n/\n<=127:=by
 simp [Lit.wf,IntKind.min,IntKind.max,IntKind.signed,IntKind.bits] at h;omega
section
variable {H:Type} {enc:TypeId × Value->H} {W:World} {base:Nat} {sp:Nat->Bool} {held:Bool}
theorem xX {n:Nat} {cs:List Value} {x:DataW H × List MemPlace} (h:DataW.trod enc Tryz.prog W base sp held n 24 cs=some x):∃ a b c:Int,(-128<=a/\a<=127)/\(-128<=b/\b<=127)/\(-128<=c/\c<=127)/\cs=[.int .i8 a,.int .i8 b,.int .i8 c]:=by
 obtain ⟨xs,m,_,_,hl,hx,hi⟩:=DataW.trod_array Tryz.underlying24 h;have k:Tryz.prog.cellsOf 23=1:=ag;have hl:cs.length=3:=hl.trans ag;rw [k] at hi
 match cs,hl with
 | [u,v,z],_ =>
  have each:∀ j,j<3->∃ n,[u,v,z][j]?=some (.int .i8 n)/\-128<=n/\n<=127:=by
   intro j hj;have h1:=hi j hj;rw [Nat.mul_one,List.getElem?_eq_getElem ae] at h1;obtain ⟨n,hc,_,wf⟩:=DataW.trod_int Tryz.underlying23 h1;refine ⟨n,?_,Gr wf⟩;have:=congrArg (fun l=>l[0]?) hc;simpa [List.getElem?_take,List.getElem?_drop] using this
  obtain ⟨a,ha,ra⟩:=each 0 af;obtain ⟨b,hb,rb⟩:=each 1 af;obtain ⟨c,hc,rc⟩:=each 2 af;refine ⟨a,b,c,ra,rb,rc,?_⟩;simp at ha hb hc;rw [ha,hb,hc]
end
end Go.Proofs.YtmahadmefplbnaaGreatDoor
