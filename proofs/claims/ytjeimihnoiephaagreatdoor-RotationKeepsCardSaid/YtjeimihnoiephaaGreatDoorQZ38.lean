/- Part 38 of the proof: KitP. -/
import Derived.Test.YtjeimihnoiephaaGreatDoorQZ25
import Derived.Test.YtjeimihnoiephaaGreatDoorQZ37
set_option maxRecDepth 100000
namespace Go.Proofs.YtjeimihnoiephaaGreatDoor
open Go Go.ChangeShapes Go.WideShapes Go.RowKit
theorem sm_of {ls:List Lf} {cs:List Value} (h:FitsL (.i .i16 :: .i .u8 :: ls) cs):∃ (n:Int) (d:Nat) (rest:List Value),(-32768≤n∧n≤32767∧d≤255)∧cs = .int .i16 n :: .int .u8 (d:Int) :: rest∧FitsL ls rest:=by
  obtain ⟨_,_,rfl,⟨n,rfl,hn⟩,_,_,rfl,⟨d,rfl,hd⟩,hr⟩:=h
  have hn':=bounds_i16 hn
  have hd':=bounds_u8 hd
  obtain ⟨k,rfl⟩:∃ k:Nat,d=(k:Int):=⟨d.toNat,by omega⟩
  exact ⟨n,k,_,⟨hn'.1,hn'.2,by omega⟩,rfl,hr⟩
theorem pla_of {ls : List Lf} {cs : List Value} (h : FitsL (.i .i16 :: .i .u8 :: .i .i16 :: .i .u8 :: .i .i16 :: .i .u8 :: ls) cs) : ∃ (p : Pla) (rest : List Value), PlaOk p ∧
    cs = .int .i16 p.n0 :: .int .u8 (p.d0:Int) :: .int .i16 p.n1 :: .int .u8 (p.d1:Int) :: .int .i16 p.n2 :: .int .u8 (p.d2:Int) :: rest∧FitsL ls rest:=by
  obtain ⟨n0,d0,r0,b0,e0,h⟩:=sm_of h
  obtain ⟨n1,d1,r1,b1,e1,h⟩:=sm_of h
  obtain ⟨n2,d2,r,b2,e2,h⟩:=sm_of h
  exact ⟨⟨n0,d0,n1,d1,n2,d2⟩,r,⟨b0.1,b0.2.1,b0.2.2,b1.1,b1.2.1,b1.2.2,b2.1,b2.2.1,b2.2.2⟩,by rw [e0,e1,e2],h⟩
end Go.Proofs.YtjeimihnoiephaaGreatDoor
