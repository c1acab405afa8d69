/- Part 29 of the proof: RP. -/
import Derived.Test.YtjeimihnoiephaaGreatDoorQX1
import Derived.Test.YtjeimihnoiephaaGreatDoorQX3
namespace Go.Proofs.YtjeimihnoiephaaGreatDoor
open Go Go.RowKit
def mul4 (k:Int) (t:Q4):Q4:=⟨k * t.w,k * t.x,k * t.y,k * t.z⟩
theorem gcd4_dvd (t:Q4):(gcd4 t:Int) ∣ t.w∧(gcd4 t:Int) ∣ t.x∧(gcd4 t:Int) ∣ t.y∧(gcd4 t:Int) ∣ t.z:=by
  have h3:gcd4 t ∣ t.z.natAbs:=Nat.gcd_dvd_right _ _
  have h2:gcd4 t ∣ t.y.natAbs:=Nat.dvd_trans (Nat.gcd_dvd_left _ _) (Nat.gcd_dvd_right _ _)
  have h1:gcd4 t ∣ t.x.natAbs:=Nat.dvd_trans (Nat.gcd_dvd_left _ _) (Nat.dvd_trans (Nat.gcd_dvd_left _ _) (Nat.gcd_dvd_right _ _))
  have h0:gcd4 t ∣ t.w.natAbs:=Nat.dvd_trans (Nat.gcd_dvd_left _ _) (Nat.dvd_trans (Nat.gcd_dvd_left _ _) (Nat.gcd_dvd_left _ _))
  exact ⟨Int.ofNat_dvd_left.2 h0,Int.ofNat_dvd_left.2 h1,Int.ofNat_dvd_left.2 h2,Int.ofNat_dvd_left.2 h3⟩
theorem sign_one {n:Int} (h:n ≠ 0):n.sign = 1 ∨ n.sign = -1:=by
  rcases Int.lt_trichotomy n 0 with e | e | e
  · exact Or.inr (Int.sign_eq_neg_one_of_neg e)
  · exact absurd e h
  · exact Or.inl (Int.sign_eq_one_of_pos e)
theorem sg4_one {t:Q4} (h:¬ t.zero):sg4 t = 1 ∨ sg4 t = -1:=by
  unfold sg4
  by_cases hw:t.w = 0
  · by_cases hx:t.x = 0
    · by_cases hy:t.y = 0
      · have hz:t.z ≠ 0:=fun e => h ⟨hw,hx,hy,e⟩
        simp only [hw,hx,hy,ne_eq,not_true_eq_false,if_false]
        exact sign_one hz
      · simp only [hw,hx,ne_eq,not_true_eq_false,if_false,hy,not_false_eq_true,if_true]
        exact sign_one hy
    · simp only [hw,ne_eq,not_true_eq_false,if_false,hx,not_false_eq_true,if_true]
      exact sign_one hx
  · simp only [ne_eq,hw,not_false_eq_true,if_true]
    exact sign_one hw
theorem sgk_ne {t:Q4} (h:¬ t.zero):sg4 t * gcd4 t ≠ 0:=by
  have:=gcd4_pos h
  rcases sg4_one h with e | e <;> rw [e] <;> omega
theorem prim4_back {t:Q4} (h:¬ t.zero):t = mul4 (sg4 t * gcd4 t) (prim4 t):=by
  have hd:=gcd4_dvd t
  have hs:∀ n:Int,(gcd4 t:Int) ∣ n → (sg4 t * gcd4 t) * n.tdiv (sg4 t * gcd4 t) = n:=by
    intro n hn
    refine Int.mul_tdiv_cancel' ?_
    rcases sg4_one h with e | e
    · rw [e,Int.one_mul];exact hn
    · rw [e,Int.neg_one_mul];exact Int.neg_dvd.2 hn
  cases t with
  | mk a b c d =>
    unfold mul4 prim4 div4
    simp only [Q4.mk.injEq]
    exact ⟨(hs _ hd.1).symm,(hs _ hd.2.1).symm,(hs _ hd.2.2.1).symm,(hs _ hd.2.2.2).symm⟩
end Go.Proofs.YtjeimihnoiephaaGreatDoor
