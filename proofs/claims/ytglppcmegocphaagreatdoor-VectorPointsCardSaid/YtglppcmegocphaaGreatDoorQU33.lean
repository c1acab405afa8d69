/- Part 33 of the proof: Int. -/
import Derived.Test.YtglppcmegocphaaGreatDoorQU1
import Derived.Test.YtglppcmegocphaaGreatDoorQU32
namespace Go.Proofs.YtglppcmegocphaaGreatDoor
open Go
def canonB (l : List UInt8) : Bool :=
  match l with
  | 45 :: t => !t.isEmpty && t.all isDig && t.head? != some 48
  | t => !t.isEmpty && t.all isDig && (t.head? != some 48 || t.length == 1)

theorem canon_zl (n : Int) : canonB (zl n) = true := by
  by_cases h : n < 0
  · rw [zl_neg h]
    obtain ⟨b, t, e, hb⟩ := dec_head n.natAbs (by omega)
    have hd := dec_digs n.natAbs
    rw [e] at hd ⊢
    simp only [canonB]
    simp [hb]
    exact ⟨hd b (by simp), fun x hx => hd x (by simp [hx])⟩
  · rw [zl_pos (by omega)]
    have hd := dec_digs n.natAbs
    by_cases h0 : n.natAbs = 0
    · rw [h0, dec_zero]; decide
    · obtain ⟨b, t, e, hb⟩ := dec_head n.natAbs h0
      rw [e] at hd ⊢
      have hm := not_minus (hd b (by simp))
      unfold canonB; split
      · simp_all
      · simp [hb]
        exact ⟨hd b (by simp), fun x hx => hd x (by simp [hx])⟩

end Go.Proofs.YtglppcmegocphaaGreatDoor
