/- Part 62 of the proof: WP. -/
import Derived.Test.YtjeimihnoiephaaGreatDoorQX1
import Derived.Test.YtjeimihnoiephaaGreatDoorQX2
import Derived.Test.YtjeimihnoiephaaGreatDoorQX3
import Derived.Test.YtjeimihnoiephaaGreatDoorQX4
import Derived.Test.YtjeimihnoiephaaGreatDoorQX5
import Derived.Test.YtjeimihnoiephaaGreatDoorQX6
import Derived.Test.YtjeimihnoiephaaGreatDoorQX7
import Derived.Test.YtjeimihnoiephaaGreatDoorQX8
import Derived.Test.YtjeimihnoiephaaGreatDoorQX9
import Derived.Test.YtjeimihnoiephaaGreatDoorQX10
import Derived.Test.YtjeimihnoiephaaGreatDoorQX11
import Derived.Test.YtjeimihnoiephaaGreatDoorQX12
import Derived.Test.YtjeimihnoiephaaGreatDoorQX13
import Derived.Test.YtjeimihnoiephaaGreatDoorQX14
import Derived.Test.YtjeimihnoiephaaGreatDoorQX15
import Derived.Test.YtjeimihnoiephaaGreatDoorQX16
import Derived.Test.YtjeimihnoiephaaGreatDoorQX17
import Derived.Test.YtjeimihnoiephaaGreatDoorQX18
import Derived.Test.YtjeimihnoiephaaGreatDoorQX19
import Derived.Test.YtjeimihnoiephaaGreatDoorQX20
import Derived.Test.YtjeimihnoiephaaGreatDoorQX21
import Derived.Test.YtjeimihnoiephaaGreatDoorQX22
import Derived.Test.YtjeimihnoiephaaGreatDoorQX23
import Derived.Test.YtjeimihnoiephaaGreatDoorQX24
import Derived.Test.YtjeimihnoiephaaGreatDoorQX25
import Derived.Test.YtjeimihnoiephaaGreatDoorQX29
import Derived.Test.YtjeimihnoiephaaGreatDoorQX32
import Derived.Test.YtjeimihnoiephaaGreatDoorQX48
import Derived.Test.YtjeimihnoiephaaGreatDoorQX60
namespace Go.Proofs.YtjeimihnoiephaaGreatDoor
open Go Go.RowKit
def lc (a b:Int):Int:=a * (b / (Int.gcd a b:Int))
theorem lc_pos {a b:Int} (ha:0 < a) (hb:0 < b):0 < lc a b:=plcm_pos ha hb
theorem lc_dvd {a b:Int} (ha:0 < a):b ∣ lc a b:=plcm_dvd ha
theorem lc_dvl (a b:Int):a ∣ lc a b:=⟨_,rfl⟩
def den4 (x y z u:Rat):Int:=lc (lc (lc (lc 1 x.den) y.den) z.den) u.den
theorem den4_1 (x:Rat):0 < lc 1 (x.den:Int):=lc_pos (by decide) (qden_pos x)
theorem den4_2 (x y:Rat):0 < lc (lc 1 (x.den:Int)) (y.den:Int):=lc_pos (den4_1 x) (qden_pos y)
theorem den4_3 (x y z:Rat):0 < lc (lc (lc 1 (x.den:Int)) (y.den:Int)) (z.den:Int):=lc_pos (den4_2 x y) (qden_pos z)
theorem den4_pos (x y z u:Rat):0 < den4 x y z u:=lc_pos (den4_3 x y z) (qden_pos u)
theorem den4_u (x y z u:Rat):(u.den:Int) ∣ den4 x y z u:=lc_dvd (den4_3 x y z)
theorem den4_z (x y z u:Rat):(z.den:Int) ∣ den4 x y z u:=Int.dvd_trans (lc_dvd (den4_2 x y)) (lc_dvl _ _)
theorem den4_y (x y z u:Rat):(y.den:Int) ∣ den4 x y z u:=Int.dvd_trans (Int.dvd_trans (lc_dvd (den4_1 x)) (lc_dvl _ _)) (lc_dvl _ _)
theorem den4_x (x y z u:Rat):(x.den:Int) ∣ den4 x y z u:=Int.dvd_trans (Int.dvd_trans (Int.dvd_trans (lc_dvd (by decide)) (lc_dvl _ _)) (lc_dvl _ _)) (lc_dvl _ _)
theorem num_of_dvd {q:Rat} {n:Int} (h:(q.den:Int) ∣ n):q * (n:Rat) = ((q * (n:Rat)).num:Rat):=by
  obtain ⟨m,hm⟩:=mul_den_int h
  rw [hm,Rat.num_intCast]
def num4 (x y z u:Rat):Q4:=⟨(x * (den4 x y z u:Rat)).num,(y * (den4 x y z u:Rat)).num,(z * (den4 x y z u:Rat)).num,(u * (den4 x y z u:Rat)).num⟩
theorem num4_w (x y z u:Rat):x * (den4 x y z u:Rat) = ((num4 x y z u).w:Rat):=num_of_dvd (den4_x x y z u)
theorem num4_x (x y z u:Rat):y * (den4 x y z u:Rat) = ((num4 x y z u).x:Rat):=num_of_dvd (den4_y x y z u)
theorem num4_y (x y z u:Rat):z * (den4 x y z u:Rat) = ((num4 x y z u).y:Rat):=num_of_dvd (den4_z x y z u)
theorem num4_z (x y z u:Rat):u * (den4 x y z u:Rat) = ((num4 x y z u).z:Rat):=num_of_dvd (den4_u x y z u)
theorem den4_ne (x y z u:Rat):(den4 x y z u:Rat) ≠ 0:=by
  have:=den4_pos x y z u
  intro e
  have:=Rat.intCast_eq_zero_iff.1 e
  omega
theorem num4_nz {x y z u:Rat} (h:¬ (x = 0∧y = 0∧z = 0∧u = 0)):¬ (num4 x y z u).zero:=by
  rintro ⟨h0,h1,h2,h3⟩
  have e:∀ {q:Rat} {n:Int},q * (den4 x y z u:Rat) = (n:Rat) → n = 0 → q = 0:=fun {q n} h h0 => by
    rw [h0] at h
    rcases Rat.mul_eq_zero.1 (h.trans (by rfl:((0:Int):Rat) = 0)) with h' | h'
    · exact h'
    · exact absurd h' (den4_ne x y z u)
  exact h ⟨e (num4_w x y z u) h0,e (num4_x x y z u) h1,e (num4_y x y z u) h2,e (num4_z x y z u) h3⟩
theorem prim4_idem {t:Q4} (h:¬ t.zero):prim4 (prim4 t) = prim4 t:=by
  have e:=prim4_mul (sgk_ne h) (prim4 t)
  rw [← prim4_back h] at e
  exact e.symm
theorem sgk_dvd {t:Q4} (h:¬ t.zero):(sg4 t * gcd4 t) ∣ t.w∧(sg4 t * gcd4 t) ∣ t.x∧(sg4 t * gcd4 t) ∣ t.y∧(sg4 t * gcd4 t) ∣ t.z:=by
  have hd:=gcd4_dvd t
  have hs:∀ n:Int,(gcd4 t:Int) ∣ n → (sg4 t * gcd4 t) ∣ n:=by
    intro n hn
    rcases sg4_one h with e | e
    · rw [e,Int.one_mul];exact hn
    · rw [e,Int.neg_one_mul];exact Int.neg_dvd.2 hn
  exact ⟨hs _ hd.1,hs _ hd.2.1,hs _ hd.2.2.1,hs _ hd.2.2.2⟩
theorem prim4_ediv {t:Q4} (h:¬ t.zero):(prim4 t).w = t.w / (sg4 t * gcd4 t)∧(prim4 t).x = t.x / (sg4 t * gcd4 t)∧(prim4 t).y = t.y / (sg4 t * gcd4 t)∧(prim4 t).z = t.z / (sg4 t * gcd4 t):=by
  have hd:=sgk_dvd h
  unfold prim4 div4
  exact ⟨Int.tdiv_eq_ediv_of_dvd hd.1,Int.tdiv_eq_ediv_of_dvd hd.2.1,Int.tdiv_eq_ediv_of_dvd hd.2.2.1,Int.tdiv_eq_ediv_of_dvd hd.2.2.2⟩
theorem gcd4_int (t:Q4):(Int.gcd (Int.gcd (Int.gcd (Int.gcd 0 t.w:Int) t.x:Int) t.y:Int) t.z:Int) = (gcd4 t:Int):=by
  unfold gcd4
  simp only [Int.gcd,Int.natAbs_natCast,Int.natAbs_zero,Nat.gcd_zero_left]
theorem prim4_prop {x y z u:Rat} (h:¬ (num4 x y z u).zero):∃ c:Rat,c ≠ 0∧((prim4 (num4 x y z u)).w:Rat) * c = x∧((prim4 (num4 x y z u)).x:Rat) * c = y∧((prim4 (num4 x y z u)).y:Rat) * c = z∧((prim4 (num4 x y z u)).z:Rat) * c = u:=by
  have hb:=prim4_back h
  have hD:=den4_ne x y z u
  generalize hg:sg4 (num4 x y z u) * gcd4 (num4 x y z u) = g at hb
  have hg0:(g:Rat) ≠ 0:=fun e => sgk_ne h (hg.trans (Rat.intCast_eq_zero_iff.1 e))
  refine ⟨(g:Rat) / (den4 x y z u:Rat),?_,?_,?_,?_,?_⟩
  · intro e
    apply hg0
    grind
  · have h1:=num4_w x y z u
    have h2:=congrArg (fun t:Q4 => (t.w:Rat)) hb
    simp only [mul4,Rat.intCast_mul] at h2
    grind
  · have h1:=num4_x x y z u
    have h2:=congrArg (fun t:Q4 => (t.x:Rat)) hb
    simp only [mul4,Rat.intCast_mul] at h2
    grind
  · have h1:=num4_y x y z u
    have h2:=congrArg (fun t:Q4 => (t.y:Rat)) hb
    simp only [mul4,Rat.intCast_mul] at h2
    grind
  · have h1:=num4_z x y z u
    have h2:=congrArg (fun t:Q4 => (t.z:Rat)) hb
    simp only [mul4,Rat.intCast_mul] at h2
    grind
theorem around_prop {y z u:Rat} (h:¬ (num4 1 y z u).zero):y * ((prim4 (num4 1 y z u)).w:Rat) = ((prim4 (num4 1 y z u)).x:Rat)∧z * ((prim4 (num4 1 y z u)).w:Rat) = ((prim4 (num4 1 y z u)).y:Rat)∧u * ((prim4 (num4 1 y z u)).w:Rat) = ((prim4 (num4 1 y z u)).z:Rat):=by
  obtain ⟨c,hc,hw,hx,hy,hz⟩:=prim4_prop h
  generalize ((prim4 (num4 1 y z u)).w:Rat) = w at *
  generalize ((prim4 (num4 1 y z u)).x:Rat) = a at *
  generalize ((prim4 (num4 1 y z u)).y:Rat) = b at *
  generalize ((prim4 (num4 1 y z u)).z:Rat) = d at *
  refine ⟨?_,?_,?_⟩ <;> grind
theorem around_nz (y z u:Rat):¬ (num4 1 y z u).zero:=num4_nz (fun h => absurd h.1 (by decide))
theorem around_pos (y z u:Rat):0 < (prim4 (num4 1 y z u)).w:=by
  have h:=around_nz y z u
  have hw:(num4 1 y z u).w = den4 1 y z u:=by
    have h1:=num4_w 1 y z u
    rw [Rat.one_mul] at h1
    exact (Rat.intCast_inj.1 h1).symm
  have hp:=den4_pos 1 y z u
  rw [← hw] at hp
  have hb:=congrArg Q4.w (prim4_back h)
  have hs:sg4 (num4 1 y z u) = 1:=by
    unfold sg4
    rw [if_pos (by omega)]
    exact Int.sign_eq_one_of_pos hp
  rw [hs,Int.one_mul] at hb
  simp only [mul4] at hb
  have hg:=gcd4_pos h
  rw [hb] at hp
  rcases Int.lt_or_le 0 (prim4 (num4 1 y z u)).w with h1 | h1
  · exact h1
  · have h2:=Int.mul_le_mul_of_nonneg_left h1 (show (0:Int) ≤ (gcd4 (num4 1 y z u):Int) by omega)
    rw [Int.mul_zero] at h2
    omega
theorem den4_ints {y z u:Rat} (hy:y.den = 1) (hz:z.den = 1) (hu:u.den = 1):den4 1 y z u = 1:=by
  unfold den4
  rw [hy,hz,hu]
  decide
end Go.Proofs.YtjeimihnoiephaaGreatDoor
