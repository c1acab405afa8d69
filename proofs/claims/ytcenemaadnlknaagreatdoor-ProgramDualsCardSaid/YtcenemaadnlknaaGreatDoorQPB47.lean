/- Part 47 of the proof: KitS. -/
import Derived.Test.YtcenemaadnlknaaGreatDoorQPB42
import Derived.Test.YtcenemaadnlknaaGreatDoorQPB46
set_option maxRecDepth 100000
set_option maxHeartbeats 2000000
namespace Go.Proofs.YtcenemaadnlknaaGreatDoor
open Go Go.ChangeShapes Go.WideShapes Go.ChangeAt Go.WideMaps Go.WideElems Go.RowKit Go.Deep
set_option maxRecDepth 100000
section
variable {H:Type} {enc:TypeId × Value->H} {W:World} {base:Nat} {sp:Nat->Bool} {held:Bool}
theorem texts_open {v:Value} {d:DataW H} {p:List MemPlace} (h:DataW.Trod enc Tryz.prog W base sp held 30 v d p) (hv:∃ a len cap,v = .slice a len cap) :
    ∃ (ao:Option Addr) (m cap:Nat) (t:Nat->ByteArray),v = .slice ao m cap/\Rs W v m t/\m<=maxLen:=by
 obtain ⟨a,len,cap,rfl⟩:=hv
 obtain ⟨fuel,hf⟩:=h
 rcases open_strings Tryz.underlying30 Tryz.underlying34 (by kernel_rfl) hf with ⟨hc,_⟩|⟨a',len',cap',ss,hc,_,hl,hm,hz,_,hcell,_⟩
 ·obtain ⟨rfl,rfl,rfl⟩:a=none/\len=0/\cap=0:=by
   have:=(List.cons.inj hc).1
   exact Value.slice.inj this
  exact ⟨none,0,0,fun _=>⟨#[]⟩,rfl,Rd.nil W _,by decide⟩
 ·obtain ⟨rfl,rfl,rfl⟩:a=some a'/\len=len'/\cap=cap':=Value.slice.inj (List.cons.inj hc).1
  refine ⟨_,_,_,fun i=>ss.getD i ByteArray.empty,rfl,⟨some a',cap,rfl,hl,by omega,fun i hi=>⟨a',rfl,hcell i ?_⟩⟩,by omega⟩
  rw [hz];split <;> omega
end
end Go.Proofs.YtcenemaadnlknaaGreatDoor
