/- Part 41. -/
import Derived.Test.YtmahadmefplbnaaGreatDoorQRV38
import Derived.Test.YtmahadmefplbnaaGreatDoorQRV40
set_option maxRecDepth 100000
set_option maxHeartbeats 2000000
namespace Go.Proofs.YtmahadmefplbnaaGreatDoor
open Go Go.ChangeShapes Go.WideShapes Go.ChangeAt Go.WideMaps Go.WideElems Go.RowKit Go.Deep
set_option maxRecDepth 100000
section
variable {H:Type} {enc:TypeId × Value->H} {W:World} {base:Nat} {sp:Nat->Bool} {held:Bool}
theorem spoil_open {r:Reach} {b0:Nat} {v:Value} {d:DataW H} {p:List MemPlace} (hv:Value.okWide Tryz.prog W r b0 51 v) (h:DataW.Trod enc Tryz.prog W base sp held 51 v d p) :
    ∃ (how at_:Int) (by_:ByteArray),v = .agg #[.int .u8 how,.int .u8 at_,.string by_]/\(0<=how/\how<=255)/\(0<=at_/\at_<=255):=by
 obtain ⟨cs,rfl,hsz⟩:=okWide_struct Tryz.underlying51 hv;obtain ⟨l⟩:=cs
 match l,hsz.trans (show Tryz.prog.cellsOf 51=3 by kernel_rfl) with
 | [c0,c1,c2],_ =>
  obtain ⟨fuel,hf⟩:=h;obtain ⟨y0,y1,y2,n,_,_,h0,h1,h2⟩:=trod_struct3 Tryz.underlying51 hf;have k0:Tryz.prog.cellsOf 5=1:=by kernel_rfl
  have k2:Tryz.prog.cellsOf 34=1:=by kernel_rfl
  have h0:DataW.trod enc Tryz.prog W base sp held n 5 ((([c0,c1,c2]:List Value).drop 0).take (Tryz.prog.cellsOf 5))=some y0:=h0;have h1:DataW.trod enc Tryz.prog W base sp held n 5 ((([c0,c1,c2]:List Value).drop 1).take (Tryz.prog.cellsOf 5))=some y1:=h1;have h2:DataW.trod enc Tryz.prog W base sp held n 34 ((([c0,c1,c2]:List Value).drop 2).take (Tryz.prog.cellsOf 34))=some y2:=h2;rw [k0] at h0 h1;rw [k2] at h2;obtain ⟨a,e0,_,wf0⟩:=DataW.trod_int Tryz.underlying5 h0;obtain ⟨b,e1,_,wf1⟩:=DataW.trod_int Tryz.underlying5 h1;obtain ⟨s,e2,_⟩:=DataW.trod_string Tryz.underlying34 h2;rw [(List.cons.inj e0).1,(List.cons.inj e1).1,(List.cons.inj e2).1];exact ⟨a,b,s,rfl,u8_wf wf0,u8_wf wf1⟩
end
end Go.Proofs.YtmahadmefplbnaaGreatDoor
