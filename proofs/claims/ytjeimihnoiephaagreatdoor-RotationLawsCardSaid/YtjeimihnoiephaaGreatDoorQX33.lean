/- Part 33 of the proof: RQ. -/
import Derived.Test.YtjeimihnoiephaaGreatDoorQX1
import Derived.Test.YtjeimihnoiephaaGreatDoorQX2
import Derived.Test.YtjeimihnoiephaaGreatDoorQX3
import Derived.Test.YtjeimihnoiephaaGreatDoorQX4
import Derived.Test.YtjeimihnoiephaaGreatDoorQX5
import Derived.Test.YtjeimihnoiephaaGreatDoorQX6
import Derived.Test.YtjeimihnoiephaaGreatDoorQX7
import Derived.Test.YtjeimihnoiephaaGreatDoorQX8
import Derived.Test.YtjeimihnoiephaaGreatDoorQX9
import Derived.Test.YtjeimihnoiephaaGreatDoorQX10
import Derived.Test.YtjeimihnoiephaaGreatDoorQX11
import Derived.Test.YtjeimihnoiephaaGreatDoorQX12
import Derived.Test.YtjeimihnoiephaaGreatDoorQX13
import Derived.Test.YtjeimihnoiephaaGreatDoorQX14
import Derived.Test.YtjeimihnoiephaaGreatDoorQX15
import Derived.Test.YtjeimihnoiephaaGreatDoorQX16
import Derived.Test.YtjeimihnoiephaaGreatDoorQX17
import Derived.Test.YtjeimihnoiephaaGreatDoorQX18
import Derived.Test.YtjeimihnoiephaaGreatDoorQX19
import Derived.Test.YtjeimihnoiephaaGreatDoorQX20
import Derived.Test.YtjeimihnoiephaaGreatDoorQX21
import Derived.Test.YtjeimihnoiephaaGreatDoorQX22
import Derived.Test.YtjeimihnoiephaaGreatDoorQX23
import Derived.Test.YtjeimihnoiephaaGreatDoorQX24
import Derived.Test.YtjeimihnoiephaaGreatDoorQX25
import Derived.Test.YtjeimihnoiephaaGreatDoorQX29
import Derived.Test.YtjeimihnoiephaaGreatDoorQX30
import Derived.Test.YtjeimihnoiephaaGreatDoorQX31
import Derived.Test.YtjeimihnoiephaaGreatDoorQX32
namespace Go.Proofs.YtjeimihnoiephaaGreatDoor
open Go Go.RowKit
theorem fr_div {n s:Int} (h:0 < s):fr n s = (n:Rat) / (s:Rat):=by
  unfold fr
  rw [Rat.mkRat_eq_div]
  have:((s.toNat:Nat):Rat) = (s:Rat):=by
    have e:((s.toNat:Nat):Int) = s:=by omega
    exact (Rat.intCast_natCast _).symm.trans (congrArg _ e)
  rw [this]
def rotQ (w x y z:Rat) (v:V3):V3 :=
  let s:=w * w + x * x + y * y + z * z
  ⟨((w * w + x * x - y * y - z * z) * v.x + 2 * (x * y - w * z) * v.y + 2 * (x * z + w * y) * v.z) / s,
   (2 * (x * y + w * z) * v.x + (w * w - x * x + y * y - z * z) * v.y + 2 * (y * z - w * x) * v.z) / s,
   (2 * (x * z - w * y) * v.x + 2 * (y * z + w * x) * v.y + (w * w - x * x - y * y + z * z) * v.z) / s⟩
theorem norm4_cast (t:Q4):((norm4 t:Int):Rat) = (t.w:Rat) * t.w + (t.x:Rat) * t.x + (t.y:Rat) * t.y + (t.z:Rat) * t.z:=by
  unfold norm4;simp only [Rat.intCast_add,Rat.intCast_mul]
theorem rot_eq {t:Q4} (h:¬ t.zero) (v:V3):rot t v = rotQ t.w t.x t.y t.z v:=by
  have hp:=norm4_pos h
  unfold rot rotQ dot3 row1 row2 row3
  simp only [fr_div hp,norm4_cast,Rat.intCast_add,Rat.intCast_sub,Rat.intCast_mul,V3.mk.injEq]
  have h2:((2:Int):Rat) = 2:=rfl
  simp only [h2,Rat.div_def]
  refine ⟨?_,?_,?_⟩ <;> grind
theorem nz4 {t:Q4} (h:¬ t.zero):(t.w:Rat) * t.w + (t.x:Rat) * t.x + (t.y:Rat) * t.y + (t.z:Rat) * t.z ≠ 0:=by
  rw [← norm4_cast]
  have:=norm4_pos h
  intro e
  have:=Rat.intCast_eq_zero_iff.1 e
  omega
def cross3 (a b:V3):V3:=⟨a.y * b.z - a.z * b.y,a.z * b.x - a.x * b.z,a.x * b.y - a.y * b.x⟩
theorem rotQ_dot {w x y z:Rat} (h:w * w + x * x + y * y + z * z ≠ 0) (u v:V3):dot3 (rotQ w x y z u) (rotQ w x y z v) = dot3 u v:=by
  unfold dot3 rotQ
  simp only
  generalize hs:w * w + x * x + y * y + z * z = s at h
  have e:∀ a b:Rat,a / s * (b / s) = a * b / (s * s):=fun a b => by grind
  rw [e,e,e]
  have hq:s * s ≠ 0:=by intro h0;rcases Rat.mul_eq_zero.1 h0 with h1 | h1 <;> exact h h1
  have e2:∀ a b c d:Rat,a + b + c = d * (s * s) → a / (s * s) + b / (s * s) + c / (s * s) = d:=fun a b c d h => by grind
  apply e2
  rw [← hs]
  grind
theorem rotQ_cross {w x y z:Rat} (h:w * w + x * x + y * y + z * z ≠ 0) (u v:V3):cross3 (rotQ w x y z u) (rotQ w x y z v) = rotQ w x y z (cross3 u v):=by
  unfold cross3 rotQ
  simp only [V3.mk.injEq]
  generalize hs:w * w + x * x + y * y + z * z = s at h
  have e:∀ a b:Rat,a / s * (b / s) = a * b / (s * s):=fun a b => by grind
  have hq:s * s ≠ 0:=by intro h0;rcases Rat.mul_eq_zero.1 h0 with h1 | h1 <;> exact h h1
  have e2:∀ a b c:Rat,a - b = c * s → a / (s * s) - b / (s * s) = c / s:=fun a b c h => by grind
  simp only [e]
  refine ⟨?_,?_,?_⟩ <;> (apply e2;rw [← hs];grind)
theorem rotQ_prod {w x y z a b c d : Rat} (h : w * w + x * x + y * y + z * z ≠ 0) (h2 : a * a + b * b + c * c + d * d ≠ 0) (u : V3) :
    rotQ (w * a - x * b - y * c - z * d) (w * b + x * a + y * d - z * c) (w * c - x * d + y * a + z * b) (w * d + x * c - y * b + z * a) u = rotQ w x y z (rotQ a b c d u):=by
  have hn:(w * a - x * b - y * c - z * d) * (w * a - x * b - y * c - z * d) + (w * b + x * a + y * d - z * c) * (w * b + x * a + y * d - z * c) + (w * c - x * d + y * a + z * b) * (w * c - x * d + y * a + z * b) + (w * d + x * c - y * b + z * a) * (w * d + x * c - y * b + z * a) = (w * w + x * x + y * y + z * z) * (a * a + b * b + c * c + d * d):=by grind
  unfold rotQ
  simp only [V3.mk.injEq,hn]
  generalize hs:w * w + x * x + y * y + z * z = s at h
  generalize hr:a * a + b * b + c * c + d * d = r at h2
  have e:∀ A B C P Q R:Rat,A * (P / r) + B * (Q / r) + C * (R / r) = (A * P + B * Q + C * R) / r:=fun A B C P Q R => by grind
  have e2:∀ A B:Rat,A = B → A / (s * r) = B / r / s:=fun A B h => by
    have hq:s * r ≠ 0:=by intro h0;rcases Rat.mul_eq_zero.1 h0 with h1 | h1 <;> contradiction
    subst h;grind
  simp only [e]
  refine ⟨?_,?_,?_⟩ <;> (apply e2;grind)
theorem rotQ_mul {w x y z k:Rat} (h:w * w + x * x + y * y + z * z ≠ 0) (hk:k ≠ 0) (u:V3):rotQ (k * w) (k * x) (k * y) (k * z) u = rotQ w x y z u:=by
  unfold rotQ
  have hn:k * w * (k * w) + k * x * (k * x) + k * y * (k * y) + k * z * (k * z) = k * k * (w * w + x * x + y * y + z * z):=by grind
  simp only [V3.mk.injEq,hn]
  generalize hs:w * w + x * x + y * y + z * z = s at h
  have hkk:k * k ≠ 0:=by intro h0;rcases Rat.mul_eq_zero.1 h0 with h1 | h1 <;> exact hk h1
  have e2:∀ A B:Rat,A = k * k * B → A / (k * k * s) = B / s:=fun A B h => by
    have hq:k * k * s ≠ 0:=by intro h0;rcases Rat.mul_eq_zero.1 h0 with h1 | h1 <;> contradiction
    subst h;grind
  refine ⟨?_,?_,?_⟩ <;> (apply e2;grind)
theorem rotQ_conj {w x y z:Rat} (h:w * w + x * x + y * y + z * z ≠ 0) (u:V3):rotQ w (-x) (-y) (-z) (rotQ w x y z u) = u:=by
  unfold rotQ
  have hn:w * w + -x * -x + -y * -y + -z * -z = w * w + x * x + y * y + z * z:=by grind
  cases u with
  | mk p q r =>
  simp only [V3.mk.injEq,hn]
  generalize hs:w * w + x * x + y * y + z * z = s at h
  have e:∀ A B C P Q R:Rat,A * (P / s) + B * (Q / s) + C * (R / s) = (A * P + B * Q + C * R) / s:=fun A B C P Q R => by grind
  have e2:∀ A B:Rat,A = B * (s * s) → A / s / s = B:=fun A B h => by subst h;grind
  simp only [e]
  refine ⟨?_,?_,?_⟩ <;> (apply e2;rw [← hs];grind)
-- the same for quaternions of ints
theorem rot_dot {t:Q4} (h:¬ t.zero) (u v:V3):dot3 (rot t u) (rot t v) = dot3 u v:=by rw [rot_eq h,rot_eq h];exact rotQ_dot (nz4 h) u v
theorem rot_cross {t:Q4} (h:¬ t.zero) (u v:V3):cross3 (rot t u) (rot t v) = rot t (cross3 u v):=by rw [rot_eq h,rot_eq h,rot_eq h];exact rotQ_cross (nz4 h) u v
theorem rot_prod {a b:Q4} (ha:¬ a.zero) (hb:¬ b.zero) (u:V3):rot (prod4 a b) u = rot a (rot b u):=by
  rw [rot_eq ha,rot_eq hb,rot_eq (prod4_nz ha hb),← rotQ_prod (nz4 ha) (nz4 hb)]
  unfold prod4
  simp only [Rat.intCast_add,Rat.intCast_sub,Rat.intCast_mul]
theorem rot_mul {t:Q4} {k:Int} (h:¬ t.zero) (hk:k ≠ 0) (u:V3):rot (mul4 k t) u = rot t u:=by
  rw [rot_eq h,rot_eq (mul4_zero hk h),← rotQ_mul (nz4 h) (k:=(k:Rat)) (fun e => hk (Rat.intCast_eq_zero_iff.1 e))]
  unfold mul4
  simp only [Rat.intCast_mul]
theorem rot_prim {t:Q4} (h:¬ t.zero) (u:V3):rot (prim4 t) u = rot t u:=by
  have:=rot_mul (prim4_nz h) (sgk_ne h) u
  rw [← prim4_back h] at this
  exact this.symm
theorem conj4_nz {t:Q4} (h:¬ t.zero):¬ (conj4 t).zero:=by
  rintro ⟨h0,h1,h2,h3⟩
  simp only [conj4] at h0 h1 h2 h3
  exact h ⟨h0,by omega,by omega,by omega⟩
theorem rot_conj {t:Q4} (h:¬ t.zero) (u:V3):rot (conj4 t) (rot t u) = u:=by
  rw [rot_eq h,rot_eq (conj4_nz h)]
  have:=rotQ_conj (nz4 h) u
  unfold conj4
  simp only [Rat.intCast_neg]
  exact this
end Go.Proofs.YtjeimihnoiephaaGreatDoor
