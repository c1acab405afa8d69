/- Part 30 of the proof: KitP. -/
import Derived.Test.YtglppcmegocphaaGreatDoorQU1
import Derived.Test.YtglppcmegocphaaGreatDoorQU2
import Derived.Test.YtglppcmegocphaaGreatDoorQU3
import Derived.Test.YtglppcmegocphaaGreatDoorQU4
import Derived.Test.YtglppcmegocphaaGreatDoorQU5
import Derived.Test.YtglppcmegocphaaGreatDoorQU6
import Derived.Test.YtglppcmegocphaaGreatDoorQU7
import Derived.Test.YtglppcmegocphaaGreatDoorQU8
import Derived.Test.YtglppcmegocphaaGreatDoorQU9
import Derived.Test.YtglppcmegocphaaGreatDoorQU10
import Derived.Test.YtglppcmegocphaaGreatDoorQU11
import Derived.Test.YtglppcmegocphaaGreatDoorQU12
import Derived.Test.YtglppcmegocphaaGreatDoorQU13
import Derived.Test.YtglppcmegocphaaGreatDoorQU14
import Derived.Test.YtglppcmegocphaaGreatDoorQU15
import Derived.Test.YtglppcmegocphaaGreatDoorQU16
import Derived.Test.YtglppcmegocphaaGreatDoorQU17
import Derived.Test.YtglppcmegocphaaGreatDoorQU18
import Derived.Test.YtglppcmegocphaaGreatDoorQU19
import Derived.Test.YtglppcmegocphaaGreatDoorQU20
import Derived.Test.YtglppcmegocphaaGreatDoorQU21
import Derived.Test.YtglppcmegocphaaGreatDoorQU22
import Derived.Test.YtglppcmegocphaaGreatDoorQU23
import Derived.Test.YtglppcmegocphaaGreatDoorQU24
import Derived.Test.YtglppcmegocphaaGreatDoorQU25
import Derived.Test.YtglppcmegocphaaGreatDoorQU28
import Derived.Test.YtglppcmegocphaaGreatDoorQU29
namespace Go.Proofs.YtglppcmegocphaaGreatDoor
open Go Go.ChangeShapes Go.WideShapes Go.RowKit
theorem sm_of {ls : List Lf} {cs : List Value} (h : FitsL (.i .i16 :: .i .u8 :: ls) cs) : ∃ (n : Int) (d : Nat) (rest : List Value), (-32768 ≤ n ∧ n ≤ 32767 ∧ d ≤ 255) ∧ cs = .int .i16 n :: .int .u8 (d : Int) :: rest ∧ FitsL ls rest := by
  obtain ⟨_, _, rfl, ⟨n, rfl, hn⟩, _, _, rfl, ⟨d, rfl, hd⟩, hr⟩ := h
  have hn' := bounds_i16 hn
  have hd' := bounds_u8 hd
  obtain ⟨k, rfl⟩ : ∃ k : Nat, d = (k : Int) := ⟨d.toNat, by omega⟩
  exact ⟨n, k, _, ⟨hn'.1, hn'.2, by omega⟩, rfl, hr⟩
theorem pla_of {ls : List Lf} {cs : List Value} (h : FitsL (.i .i16 :: .i .u8 :: .i .i16 :: .i .u8 :: .i .i16 :: .i .u8 :: ls) cs) : ∃ (p : Pla) (rest : List Value), PlaOk p ∧
    cs = .int .i16 p.n0 :: .int .u8 (p.d0 : Int) :: .int .i16 p.n1 :: .int .u8 (p.d1 : Int) :: .int .i16 p.n2 :: .int .u8 (p.d2 : Int) :: rest ∧ FitsL ls rest := by
  obtain ⟨n0, d0, r0, b0, e0, h⟩ := sm_of h
  obtain ⟨n1, d1, r1, b1, e1, h⟩ := sm_of h
  obtain ⟨n2, d2, r, b2, e2, h⟩ := sm_of h
  exact ⟨⟨n0, d0, n1, d1, n2, d2⟩, r, ⟨b0.1, b0.2.1, b0.2.2, b1.1, b1.2.1, b1.2.2, b2.1, b2.2.1, b2.2.2⟩, by rw [e0, e1, e2], h⟩
end Go.Proofs.YtglppcmegocphaaGreatDoor
