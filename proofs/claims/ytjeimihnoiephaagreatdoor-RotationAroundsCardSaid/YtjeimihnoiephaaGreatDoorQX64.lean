/- Part 64 of the proof: M12. -/
import Derived.Test.YtjeimihnoiephaaGreatDoorQX1
import Derived.Test.YtjeimihnoiephaaGreatDoorQX2
import Derived.Test.YtjeimihnoiephaaGreatDoorQX3
import Derived.Test.YtjeimihnoiephaaGreatDoorQX4
import Derived.Test.YtjeimihnoiephaaGreatDoorQX5
import Derived.Test.YtjeimihnoiephaaGreatDoorQX6
import Derived.Test.YtjeimihnoiephaaGreatDoorQX7
import Derived.Test.YtjeimihnoiephaaGreatDoorQX8
import Derived.Test.YtjeimihnoiephaaGreatDoorQX9
import Derived.Test.YtjeimihnoiephaaGreatDoorQX10
import Derived.Test.YtjeimihnoiephaaGreatDoorQX11
import Derived.Test.YtjeimihnoiephaaGreatDoorQX12
import Derived.Test.YtjeimihnoiephaaGreatDoorQX13
import Derived.Test.YtjeimihnoiephaaGreatDoorQX14
import Derived.Test.YtjeimihnoiephaaGreatDoorQX15
import Derived.Test.YtjeimihnoiephaaGreatDoorQX16
import Derived.Test.YtjeimihnoiephaaGreatDoorQX17
import Derived.Test.YtjeimihnoiephaaGreatDoorQX18
import Derived.Test.YtjeimihnoiephaaGreatDoorQX19
import Derived.Test.YtjeimihnoiephaaGreatDoorQX20
import Derived.Test.YtjeimihnoiephaaGreatDoorQX21
import Derived.Test.YtjeimihnoiephaaGreatDoorQX22
import Derived.Test.YtjeimihnoiephaaGreatDoorQX23
import Derived.Test.YtjeimihnoiephaaGreatDoorQX24
import Derived.Test.YtjeimihnoiephaaGreatDoorQX25
import Derived.Test.YtjeimihnoiephaaGreatDoorQX26
import Derived.Test.YtjeimihnoiephaaGreatDoorQX27
import Derived.Test.YtjeimihnoiephaaGreatDoorQX28
import Derived.Test.YtjeimihnoiephaaGreatDoorQX29
import Derived.Test.YtjeimihnoiephaaGreatDoorQX32
import Derived.Test.YtjeimihnoiephaaGreatDoorQX34
import Derived.Test.YtjeimihnoiephaaGreatDoorQX48
import Derived.Test.YtjeimihnoiephaaGreatDoorQX60
import Derived.Test.YtjeimihnoiephaaGreatDoorQX62
import Derived.Test.YtjeimihnoiephaaGreatDoorQX63
namespace Go.Proofs.YtjeimihnoiephaaGreatDoor
open Go Go.RowKit
set_option linter.unusedVariables false
theorem parts_as (x:Rat) (c:Int) (e:(x.den:Int) = c) (w:World) (g:Gd w) (hx:QB 100 x):Calls Tryz.prog 72 #[.string (qs x)] w (Ret w (.tuple #[.string (zs x.num),.string (zs c)])):=by
  subst e;exact parts_c x w hx (by decide)
theorem gcd1_as (c g0:Int) (e:(Int.gcd 1 c:Int) = g0) (w:World) (g:Gd w) (hc:IB 100 c):Calls Tryz.prog 73 #[.string ⟨#[49]⟩,.string (zs c)] w (Ret w (.string (zs g0))):=by
  subst e;exact gcd_1 c w g hc (by decide)
theorem gcd0_as (c g0:Int) (e:(Int.gcd 0 c:Int) = g0) {k:Nat} (w:World) (g:Gd w) (hc:IB k c) (hk:k ≤ 2000):Calls Tryz.prog 73 #[.string ⟨#[48]⟩,.string (zs c)] w (Ret w (.string (zs g0))):=by
  subst e;exact gcd_0 c w g hc (by omega)
theorem gcd_as (a c g0:Int) (e:(Int.gcd a c:Int) = g0) {k m:Nat} (w:World) (g:Gd w) (ha:IB k a) (hc:IB m c) (hk:k ≤ 2000) (hm:m ≤ 2000):Calls Tryz.prog 73 #[.string (zs a),.string (zs c)] w (Ret w (.string (zs g0))):=by
  subst e;exact gcd_c a c w g ha hc (by omega) (by omega)
theorem div_as (a c q:Int) (e:a / c = q) {k m:Nat} (w:World) (g:Gd w) (ha:IB k a) (hc:IB m c) (hk:k ≤ 2000) (hm:m ≤ 2000) (hz:c ≠ 0):Calls Tryz.prog 74 #[.string (zs a),.string (zs c)] w (Ret w (.tuple #[.string (zs q),.string (zs (a % c)),.int .i64 0])):=by
  subst e;exact divmod_c a c w g ha hc (by omega) (by omega) hz
theorem imul1_as (a q:Int) (e:1 * a = q) {k:Nat} (w:World) (g:Gd w) (ha:IB k a) (hk:k ≤ 2000):Calls Tryz.prog 75 #[.string ⟨#[49]⟩,.string (zs a)] w (Ret w (.string (zs q))):=by
  subst e;exact imul_1 a w g ha (by omega)
theorem imul_as (a c q:Int) (e:a * c = q) {k m:Nat} (w:World) (g:Gd w) (ha:IB k a) (hc:IB m c) (hk:k ≤ 2000) (hm:m ≤ 2000):Calls Tryz.prog 75 #[.string (zs a),.string (zs c)] w (Ret w (.string (zs q))):=by
  subst e;exact mul_c a c w g ha hc (by omega) (by omega)
theorem rmulz_as (x:Rat) (d n:Int) (e:x * (d:Rat) = (n:Rat)) (w:World) (g:Gd w) (hx:QB 100 x) (hd:IB 401 d):Calls Tryz.prog 46 #[.string (qs x),.string (zs d)] w (Ret w (.string (zs n))):=by
  have h:=rmul_c x (d:Rat) w g hx (QB.int hd (by decide)) (by decide) (by decide)
  rwa [e,qs_int,qs_int] at h
theorem partsz_c (n:Int) {k:Nat} (w:World) (h:IB k n) (h1:1 ≤ k) (hk:k ≤ 2000):Calls Tryz.prog 72 #[.string (zs n)] w (Ret w (.tuple #[.string (zs n),.string ⟨#[49]⟩])):=by
  have:=parts_c (n:Rat) w (QB.int h h1) (by omega)
  rwa [qs_int,Rat.num_intCast,Rat.den_intCast,show ((1:Nat):Int) = 1 from rfl,zs_one] at this
theorem small4 (n:Int):(-1000000 ≤ n∧n ≤ 1000000) ∨ (1000000 < n∧n ≤ 9223372036854775807) ∨ (n < -1000000∧-9223372036854775808 ≤ n) ∨ (n < -9223372036854775808 ∨ 9223372036854775807 < n):=by omega
theorem gcd_nz {a c g0:Int} (e:(Int.gcd a c:Int) = g0) (h:0 < c):g0 ≠ 0:=by
  subst e;exact gcd_ne (by omega)
theorem prim4_pos {t p:Q4} {j:Int} (h:¬ t.zero) (hs:sg4 t = 1) (hj:(gcd4 t:Int) = j) (hp:prim4 t = p):t.w / j = p.w∧t.x / j = p.x∧t.y / j = p.y∧t.z / j = p.z:=by
  have e:=prim4_ediv h
  rw [hs,Int.one_mul,hj,hp] at e
  exact ⟨e.1.symm,e.2.1.symm,e.2.2.1.symm,e.2.2.2.symm⟩
theorem sg4_w {t:Q4} (h:0 < t.w):sg4 t = 1:=by
  unfold sg4
  rw [if_pos (by omega)]
  exact Int.sign_eq_one_of_pos h
theorem num4_pos {x y z u:Rat} (h:0 < x):0 < (num4 x y z u).w:=by
  have e:=num4_w x y z u
  have hd:(0:Rat) < (den4 x y z u:Rat):=Rat.intCast_pos.2 (den4_pos x y z u)
  have hp:=Rat.mul_pos h hd
  rw [e] at hp
  exact Rat.intCast_pos.1 hp
theorem sign_as (n s:Int) (e:n.sign = s) (w:World):Calls Tryz.prog 98 #[.string (zs n)] w (fun e' w' => e' = .returned (.int .i64 s)∧w = w'):=by
  subst e;exact sign_c n w
theorem num_ib {x:Rat} {d n:Int} {k m:Nat} (e:x * (d:Rat) = (n:Rat)) (hx:QB k x) (hd:IB m d) (h1:1 ≤ m):IB (k + m) n:=by
  have h:=hx.mul (QB.int hd h1)
  rw [e] at h
  exact ⟨by have:=h.num;rwa [Rat.num_intCast] at this⟩

set_option maxRecDepth 100000 in
set_option maxHeartbeats 32000000 in
theorem rwhole_in (x0 x1 x2 x3:Rat) (N p:Q4) (w:World) (g:Gd w) (h0:QB 100 x0) (h1:QB 100 x1) (h2:QB 100 x2) (h3:QB 100 x3) (hn:num4 x0 x1 x2 x3 = N) (h00:0 < x0) (hp:prim4 N = p) (hi:Q4In p):Calls Tryz.prog 45 #[.agg #[.string (qs x0),.string (qs x1),.string (qs x2),.string (qs x3)]] w (Ret w (.tuple #[.agg #[.int .i64 p.w,.int .i64 p.x,.int .i64 p.y,.int .i64 p.z],.int .i64 0])):=by
  have Hx0:=Lib.hid h0
  have Hx1:=Lib.hid h1
  have Hx2:=Lib.hid h2
  have Hx3:=Lib.hid h3
  have HN:=Lib.hid hn
  have H00:=Lib.hid h00
  have HP:=Lib.hid hp
  have HI:=Lib.hid hi
  have HG:=Lib.hid g
  clear h0 h1 h2 h3 hn h00 hp hi g
  have HZ:Hid (¬ N.zero):=Lib.hid (HN.out ▸ num4_nz (fun h => absurd h.1 (Rat.ne_of_gt H00.out)))
  obtain ⟨c0,e_⟩:∃ n,(x0.den:Int) = n:=⟨_,rfl⟩
  have Hc0E:=Lib.hid e_;have Hc0B:Hid (IB 100 c0):=Lib.hid (by rw [← e_];exact QB.iden Hx0.out);have Hc0P:Hid (0 < c0):=Lib.hid (by rw [← e_];exact qden_pos _);clear e_
  obtain ⟨G0,e_⟩:∃ n,(Int.gcd 1 c0:Int) = n:=⟨_,rfl⟩
  have HG0E:=Lib.hid e_;have HG0B:Hid (IB 100 G0):=Lib.hid (by rw [← e_];exact IB.gcd IB.one Hc0B.out);have HG0N:Hid (G0 ≠ 0):=Lib.hid (by exact gcd_nz e_ Hc0P.out);clear e_
  obtain ⟨K0,e_⟩:∃ n,c0 / G0 = n:=⟨_,rfl⟩
  have HK0E:=Lib.hid e_;have HK0B:Hid (IB 100 K0):=Lib.hid (by rw [← e_];exact Hc0B.out.div _);clear e_
  obtain ⟨D1,e_⟩:∃ n,1 * K0 = n:=⟨_,rfl⟩
  have HD1E:=Lib.hid e_;have HD1B:Hid (IB 101 D1):=Lib.hid (by rw [← e_];exact IB.one.mul HK0B.out);clear e_
  obtain ⟨c1,e_⟩:∃ n,(x1.den:Int) = n:=⟨_,rfl⟩
  have Hc1E:=Lib.hid e_;have Hc1B:Hid (IB 100 c1):=Lib.hid (by rw [← e_];exact QB.iden Hx1.out);have Hc1P:Hid (0 < c1):=Lib.hid (by rw [← e_];exact qden_pos _);clear e_
  obtain ⟨G1,e_⟩:∃ n,(Int.gcd D1 c1:Int) = n:=⟨_,rfl⟩
  have HG1E:=Lib.hid e_;have HG1B:Hid (IB 101 G1):=Lib.hid (by rw [← e_];exact IB.gcd HD1B.out Hc1B.out);have HG1N:Hid (G1 ≠ 0):=Lib.hid (by exact gcd_nz e_ Hc1P.out);clear e_
  obtain ⟨K1,e_⟩:∃ n,c1 / G1 = n:=⟨_,rfl⟩
  have HK1E:=Lib.hid e_;have HK1B:Hid (IB 100 K1):=Lib.hid (by rw [← e_];exact Hc1B.out.div _);clear e_
  obtain ⟨D2,e_⟩:∃ n,D1 * K1 = n:=⟨_,rfl⟩
  have HD2E:=Lib.hid e_;have HD2B:Hid (IB 201 D2):=Lib.hid (by rw [← e_];exact HD1B.out.mul HK1B.out);clear e_
  obtain ⟨c2,e_⟩:∃ n,(x2.den:Int) = n:=⟨_,rfl⟩
  have Hc2E:=Lib.hid e_;have Hc2B:Hid (IB 100 c2):=Lib.hid (by rw [← e_];exact QB.iden Hx2.out);have Hc2P:Hid (0 < c2):=Lib.hid (by rw [← e_];exact qden_pos _);clear e_
  obtain ⟨G2,e_⟩:∃ n,(Int.gcd D2 c2:Int) = n:=⟨_,rfl⟩
  have HG2E:=Lib.hid e_;have HG2B:Hid (IB 201 G2):=Lib.hid (by rw [← e_];exact IB.gcd HD2B.out Hc2B.out);have HG2N:Hid (G2 ≠ 0):=Lib.hid (by exact gcd_nz e_ Hc2P.out);clear e_
  obtain ⟨K2,e_⟩:∃ n,c2 / G2 = n:=⟨_,rfl⟩
  have HK2E:=Lib.hid e_;have HK2B:Hid (IB 100 K2):=Lib.hid (by rw [← e_];exact Hc2B.out.div _);clear e_
  obtain ⟨D3,e_⟩:∃ n,D2 * K2 = n:=⟨_,rfl⟩
  have HD3E:=Lib.hid e_;have HD3B:Hid (IB 301 D3):=Lib.hid (by rw [← e_];exact HD2B.out.mul HK2B.out);clear e_
  obtain ⟨c3,e_⟩:∃ n,(x3.den:Int) = n:=⟨_,rfl⟩
  have Hc3E:=Lib.hid e_;have Hc3B:Hid (IB 100 c3):=Lib.hid (by rw [← e_];exact QB.iden Hx3.out);have Hc3P:Hid (0 < c3):=Lib.hid (by rw [← e_];exact qden_pos _);clear e_
  obtain ⟨G3,e_⟩:∃ n,(Int.gcd D3 c3:Int) = n:=⟨_,rfl⟩
  have HG3E:=Lib.hid e_;have HG3B:Hid (IB 301 G3):=Lib.hid (by rw [← e_];exact IB.gcd HD3B.out Hc3B.out);have HG3N:Hid (G3 ≠ 0):=Lib.hid (by exact gcd_nz e_ Hc3P.out);clear e_
  obtain ⟨K3,e_⟩:∃ n,c3 / G3 = n:=⟨_,rfl⟩
  have HK3E:=Lib.hid e_;have HK3B:Hid (IB 100 K3):=Lib.hid (by rw [← e_];exact Hc3B.out.div _);clear e_
  obtain ⟨D4,e_⟩:∃ n,D3 * K3 = n:=⟨_,rfl⟩
  have HD4E:=Lib.hid e_;have HD4B:Hid (IB 401 D4):=Lib.hid (by rw [← e_];exact HD3B.out.mul HK3B.out);clear e_
  have HD4E2:Hid (den4 x0 x1 x2 x3 = D4):=Lib.hid (by unfold den4 lc;rw [Hc0E.out,Hc1E.out,Hc2E.out,Hc3E.out,HG0E.out,HK0E.out,HD1E.out,HG1E.out,HK1E.out,HD2E.out,HG2E.out,HK2E.out,HD3E.out,HG3E.out,HK3E.out,HD4E.out])
  have HM0:Hid (x0 * (D4:Rat) = (N.w:Rat)):=Lib.hid (by rw [← HD4E2.out,← HN.out];exact num4_w x0 x1 x2 x3)
  have HN0B:Hid (IB 501 N.w):=Lib.hid (num_ib HM0.out Hx0.out HD4B.out (by decide))
  have HM1:Hid (x1 * (D4:Rat) = (N.x:Rat)):=Lib.hid (by rw [← HD4E2.out,← HN.out];exact num4_x x0 x1 x2 x3)
  have HN1B:Hid (IB 501 N.x):=Lib.hid (num_ib HM1.out Hx1.out HD4B.out (by decide))
  have HM2:Hid (x2 * (D4:Rat) = (N.y:Rat)):=Lib.hid (by rw [← HD4E2.out,← HN.out];exact num4_y x0 x1 x2 x3)
  have HN2B:Hid (IB 501 N.y):=Lib.hid (num_ib HM2.out Hx2.out HD4B.out (by decide))
  have HM3:Hid (x3 * (D4:Rat) = (N.z:Rat)):=Lib.hid (by rw [← HD4E2.out,← HN.out];exact num4_z x0 x1 x2 x3)
  have HN3B:Hid (IB 501 N.z):=Lib.hid (num_ib HM3.out Hx3.out HD4B.out (by decide))
  obtain ⟨J1,e_⟩:∃ n,(Int.gcd 0 N.w:Int) = n:=⟨_,rfl⟩
  have HJ1E:=Lib.hid e_;have HJ1B:Hid (IB 501 J1):=Lib.hid (by rw [← e_];exact IB.gcd (IB.zero.mono (by decide:1 ≤ 501)) HN0B.out);clear e_
  obtain ⟨J2,e_⟩:∃ n,(Int.gcd J1 N.x:Int) = n:=⟨_,rfl⟩
  have HJ2E:=Lib.hid e_;have HJ2B:Hid (IB 501 J2):=Lib.hid (by rw [← e_];exact IB.gcd HJ1B.out HN1B.out);clear e_
  obtain ⟨J3,e_⟩:∃ n,(Int.gcd J2 N.y:Int) = n:=⟨_,rfl⟩
  have HJ3E:=Lib.hid e_;have HJ3B:Hid (IB 501 J3):=Lib.hid (by rw [← e_];exact IB.gcd HJ2B.out HN2B.out);clear e_
  obtain ⟨J4,e_⟩:∃ n,(Int.gcd J3 N.z:Int) = n:=⟨_,rfl⟩
  have HJ4E:=Lib.hid e_;have HJ4B:Hid (IB 501 J4):=Lib.hid (by rw [← e_];exact IB.gcd HJ3B.out HN3B.out);clear e_
  have HJ4:Hid ((gcd4 N:Int) = J4):=Lib.hid (by rw [← gcd4_int,HJ1E.out,HJ2E.out,HJ3E.out,HJ4E.out])
  have HJN:Hid (J4 ≠ 0):=Lib.hid (by have:=gcd4_pos HZ.out;have:=HJ4.out;omega)
  have HW0:Hid (0 < N.w):=Lib.hid (HN.out ▸ num4_pos H00.out)
  have HSE:Hid (sg4 N = 1):=Lib.hid (sg4_w HW0.out)
  have HPD:=Lib.hid (prim4_pos HZ.out HSE.out HJ4.out HP.out)
  have HPB:Hid (IB 501 p.w∧IB 501 p.x∧IB 501 p.y∧IB 501 p.z):=Lib.hid (by
    have e:=prim4_ediv HZ.out
    rw [HP.out] at e
    rw [e.1,e.2.1,e.2.2.1,e.2.2.2]
    exact ⟨HN0B.out.div _,HN1B.out.div _,HN2B.out.div _,HN3B.out.div _⟩)
  have ix0:∀ W,(Instr.index 90 (.agg #[.string (qs x0),.string (qs x1),.string (qs x2),.string (qs x3)]) (.int .i64 0)).run Tryz.prog W = .ok (.string (qs x0)) W:=fun W => by kernel_rfl
  have ix1:∀ W,(Instr.index 90 (.agg #[.string (qs x0),.string (qs x1),.string (qs x2),.string (qs x3)]) (.int .i64 1)).run Tryz.prog W = .ok (.string (qs x1)) W:=fun W => by kernel_rfl
  have ix2:∀ W,(Instr.index 90 (.agg #[.string (qs x0),.string (qs x1),.string (qs x2),.string (qs x3)]) (.int .i64 2)).run Tryz.prog W = .ok (.string (qs x2)) W:=fun W => by kernel_rfl
  have ix3:∀ W,(Instr.index 90 (.agg #[.string (qs x0),.string (qs x1),.string (qs x2),.string (qs x3)]) (.int .i64 3)).run Tryz.prog W = .ok (.string (qs x3)) W:=fun W => by kernel_rfl
  have ix4:∀ W,(Instr.index 90 (.agg #[.string (qs x0),.string (qs x1),.string (qs x2),.string (qs x3)]) (.int .i64 0)).run Tryz.prog W = .ok (.string (qs x0)) W:=fun W => by kernel_rfl
  have ix5:∀ W,(Instr.index 90 (.agg #[.string (qs x0),.string (qs x1),.string (qs x2),.string (qs x3)]) (.int .i64 1)).run Tryz.prog W = .ok (.string (qs x1)) W:=fun W => by kernel_rfl
  have ix6:∀ W,(Instr.index 90 (.agg #[.string (qs x0),.string (qs x1),.string (qs x2),.string (qs x3)]) (.int .i64 2)).run Tryz.prog W = .ok (.string (qs x2)) W:=fun W => by kernel_rfl
  have ix7:∀ W,(Instr.index 90 (.agg #[.string (qs x0),.string (qs x1),.string (qs x2),.string (qs x3)]) (.int .i64 3)).run Tryz.prog W = .ok (.string (qs x3)) W:=fun W => by kernel_rfl
  have ix8:∀ W,(Instr.index 134 (.agg #[.string (zs N.w),.string (zs N.x),.string (zs N.y),.string (zs N.z)]) (.int .i64 0)).run Tryz.prog W = .ok (.string (zs N.w)) W:=fun W => by kernel_rfl
  have ix9:∀ W,(Instr.index 134 (.agg #[.string (zs N.w),.string (zs N.x),.string (zs N.y),.string (zs N.z)]) (.int .i64 1)).run Tryz.prog W = .ok (.string (zs N.x)) W:=fun W => by kernel_rfl
  have ix10:∀ W,(Instr.index 134 (.agg #[.string (zs N.w),.string (zs N.x),.string (zs N.y),.string (zs N.z)]) (.int .i64 2)).run Tryz.prog W = .ok (.string (zs N.y)) W:=fun W => by kernel_rfl
  have ix11:∀ W,(Instr.index 134 (.agg #[.string (zs N.w),.string (zs N.x),.string (zs N.y),.string (zs N.z)]) (.int .i64 3)).run Tryz.prog W = .ok (.string (zs N.z)) W:=fun W => by kernel_rfl
  go_enter Tryz.func45,Tryz.ntmps45
  go_wp2_with fail
  refine wp_loop_rounds 5 ?_
  rw [rounds_succ]
  go_wp2_with fail
  refine (parts_as x0 c0 Hc0E.out _ (HG.out.ext (((Ext.refl w).alloc _).alloc _)) Hx0.out).mono ?_;rintro e w1 ⟨rfl,e1⟩
  have HX1:Hid (Ext w w1):=Lib.hid ((((Ext.refl w).alloc _).alloc _).trans e1)
  have HB0_1:Hid (Blk w1 (w.heap.size) #[.string (qs x0),.string (qs x1),.string (qs x2),.string (qs x3)] 90):=Lib.hid (Blk.ext ((Blk.new' (w:=_) (cs:=#[.string (qs x0),.string (qs x1),.string (qs x2),.string (qs x3)]) (t:=90) (by first | rfl | (simp only [World.size_alloc];done) | (simp only [World.size_alloc];omega) | simp)).alloc _) e1)
  have HB1_1:Hid (Blk w1 (w.heap.size + 1) #[.int .i64 0,.int .i64 0,.int .i64 0,.int .i64 0] 22):=Lib.hid (Blk.ext (Blk.new' (w:=_) (cs:=#[.int .i64 0,.int .i64 0,.int .i64 0,.int .i64 0]) (t:=22) (by first | rfl | (simp only [World.size_alloc];done) | (simp only [World.size_alloc];omega) | simp)) e1)
  have HGEB0:Hid (w.heap.size ≤ w.heap.size):=Lib.hid (by first | omega | (simp only [];omega) | (simp;omega))
  have HGEB1:Hid (w.heap.size ≤ w.heap.size + 1):=Lib.hid (by first | omega | (simp only [];omega) | (simp;omega))
  clear e1
  go_wp2_with fail
  refine (gcd1_as c0 G0 HG0E.out _ (HG.out.ext HX1.out) Hc0B.out).mono ?_;rintro e w2 ⟨rfl,e2⟩
  have HX2:Hid (Ext w w2):=Lib.hid (HX1.out.trans e2)
  have HB0_2:=Lib.hid (Blk.ext HB0_1.out e2)
  have HB1_2:=Lib.hid (Blk.ext HB1_1.out e2)
  clear e2
  go_wp2_with fail
  refine (div_as c0 G0 K0 HK0E.out _ (HG.out.ext HX2.out) Hc0B.out HG0B.out (by decide) (by decide) HG0N.out).mono ?_;rintro e w3 ⟨rfl,e3⟩
  have HX3:Hid (Ext w w3):=Lib.hid (HX2.out.trans e3)
  have HB0_3:=Lib.hid (Blk.ext HB0_2.out e3)
  have HB1_3:=Lib.hid (Blk.ext HB1_2.out e3)
  clear e3
  go_wp2_with fail
  refine (imul1_as K0 D1 HD1E.out _ (HG.out.ext HX3.out) HK0B.out (by decide)).mono ?_;rintro e w4 ⟨rfl,e4⟩
  have HX4:Hid (Ext w w4):=Lib.hid (HX3.out.trans e4)
  have HB0_4:=Lib.hid (Blk.ext HB0_3.out e4)
  have HB1_4:=Lib.hid (Blk.ext HB1_3.out e4)
  clear e4
  go_wp2_with fail
  rw [rounds_succ]
  go_wp2_with fail
  refine (parts_as x1 c1 Hc1E.out _ (HG.out.ext HX4.out) Hx1.out).mono ?_;rintro e w5 ⟨rfl,e5⟩
  have HX5:Hid (Ext w w5):=Lib.hid (HX4.out.trans e5)
  have HB0_5:=Lib.hid (Blk.ext HB0_4.out e5)
  have HB1_5:=Lib.hid (Blk.ext HB1_4.out e5)
  clear e5
  go_wp2_with fail
  refine (gcd_as D1 c1 G1 HG1E.out _ (HG.out.ext HX5.out) HD1B.out Hc1B.out (by decide) (by decide)).mono ?_;rintro e w6 ⟨rfl,e6⟩
  have HX6:Hid (Ext w w6):=Lib.hid (HX5.out.trans e6)
  have HB0_6:=Lib.hid (Blk.ext HB0_5.out e6)
  have HB1_6:=Lib.hid (Blk.ext HB1_5.out e6)
  clear e6
  go_wp2_with fail
  refine (div_as c1 G1 K1 HK1E.out _ (HG.out.ext HX6.out) Hc1B.out HG1B.out (by decide) (by decide) HG1N.out).mono ?_;rintro e w7 ⟨rfl,e7⟩
  have HX7:Hid (Ext w w7):=Lib.hid (HX6.out.trans e7)
  have HB0_7:=Lib.hid (Blk.ext HB0_6.out e7)
  have HB1_7:=Lib.hid (Blk.ext HB1_6.out e7)
  clear e7
  go_wp2_with fail
  refine (imul_as D1 K1 D2 HD2E.out _ (HG.out.ext HX7.out) HD1B.out HK1B.out (by decide) (by decide)).mono ?_;rintro e w8 ⟨rfl,e8⟩
  have HX8:Hid (Ext w w8):=Lib.hid (HX7.out.trans e8)
  have HB0_8:=Lib.hid (Blk.ext HB0_7.out e8)
  have HB1_8:=Lib.hid (Blk.ext HB1_7.out e8)
  clear e8
  go_wp2_with fail
  rw [rounds_succ]
  go_wp2_with fail
  refine (parts_as x2 c2 Hc2E.out _ (HG.out.ext HX8.out) Hx2.out).mono ?_;rintro e w9 ⟨rfl,e9⟩
  have HX9:Hid (Ext w w9):=Lib.hid (HX8.out.trans e9)
  have HB0_9:=Lib.hid (Blk.ext HB0_8.out e9)
  have HB1_9:=Lib.hid (Blk.ext HB1_8.out e9)
  clear e9
  go_wp2_with fail
  refine (gcd_as D2 c2 G2 HG2E.out _ (HG.out.ext HX9.out) HD2B.out Hc2B.out (by decide) (by decide)).mono ?_;rintro e w10 ⟨rfl,e10⟩
  have HX10:Hid (Ext w w10):=Lib.hid (HX9.out.trans e10)
  have HB0_10:=Lib.hid (Blk.ext HB0_9.out e10)
  have HB1_10:=Lib.hid (Blk.ext HB1_9.out e10)
  clear e10
  go_wp2_with fail
  refine (div_as c2 G2 K2 HK2E.out _ (HG.out.ext HX10.out) Hc2B.out HG2B.out (by decide) (by decide) HG2N.out).mono ?_;rintro e w11 ⟨rfl,e11⟩
  have HX11:Hid (Ext w w11):=Lib.hid (HX10.out.trans e11)
  have HB0_11:=Lib.hid (Blk.ext HB0_10.out e11)
  have HB1_11:=Lib.hid (Blk.ext HB1_10.out e11)
  clear e11
  go_wp2_with fail
  refine (imul_as D2 K2 D3 HD3E.out _ (HG.out.ext HX11.out) HD2B.out HK2B.out (by decide) (by decide)).mono ?_;rintro e w12 ⟨rfl,e12⟩
  have HX12:Hid (Ext w w12):=Lib.hid (HX11.out.trans e12)
  have HB0_12:=Lib.hid (Blk.ext HB0_11.out e12)
  have HB1_12:=Lib.hid (Blk.ext HB1_11.out e12)
  clear e12
  go_wp2_with fail
  rw [rounds_succ]
  go_wp2_with fail
  refine (parts_as x3 c3 Hc3E.out _ (HG.out.ext HX12.out) Hx3.out).mono ?_;rintro e w13 ⟨rfl,e13⟩
  have HX13:Hid (Ext w w13):=Lib.hid (HX12.out.trans e13)
  have HB0_13:=Lib.hid (Blk.ext HB0_12.out e13)
  have HB1_13:=Lib.hid (Blk.ext HB1_12.out e13)
  clear e13
  go_wp2_with fail
  refine (gcd_as D3 c3 G3 HG3E.out _ (HG.out.ext HX13.out) HD3B.out Hc3B.out (by decide) (by decide)).mono ?_;rintro e w14 ⟨rfl,e14⟩
  have HX14:Hid (Ext w w14):=Lib.hid (HX13.out.trans e14)
  have HB0_14:=Lib.hid (Blk.ext HB0_13.out e14)
  have HB1_14:=Lib.hid (Blk.ext HB1_13.out e14)
  clear e14
  go_wp2_with fail
  refine (div_as c3 G3 K3 HK3E.out _ (HG.out.ext HX14.out) Hc3B.out HG3B.out (by decide) (by decide) HG3N.out).mono ?_;rintro e w15 ⟨rfl,e15⟩
  have HX15:Hid (Ext w w15):=Lib.hid (HX14.out.trans e15)
  have HB0_15:=Lib.hid (Blk.ext HB0_14.out e15)
  have HB1_15:=Lib.hid (Blk.ext HB1_14.out e15)
  clear e15
  go_wp2_with fail
  refine (imul_as D3 K3 D4 HD4E.out _ (HG.out.ext HX15.out) HD3B.out HK3B.out (by decide) (by decide)).mono ?_;rintro e w16 ⟨rfl,e16⟩
  have HX16:Hid (Ext w w16):=Lib.hid (HX15.out.trans e16)
  have HB0_16:=Lib.hid (Blk.ext HB0_15.out e16)
  have HB1_16:=Lib.hid (Blk.ext HB1_15.out e16)
  clear e16
  go_wp2_with fail
  rw [rounds_succ]
  go_upto_region 11 with fail
  refine wp_name (fun W => Ext w W∧Blk W (w.heap.size) #[.string (qs x0),.string (qs x1),.string (qs x2),.string (qs x3)] 90∧Blk W (w.heap.size + 1) #[.int .i64 0,.int .i64 0,.int .i64 0,.int .i64 0] 22∧Blk W (w16.heap.size) #[.string ⟨#[]⟩,.string ⟨#[]⟩,.string ⟨#[]⟩,.string ⟨#[]⟩] 134) ⟨(HX16.out.alloc _),(HB0_16.out.alloc _),(HB1_16.out.alloc _),(Blk.new' (w:=_) (cs:=#[.string ⟨#[]⟩,.string ⟨#[]⟩,.string ⟨#[]⟩,.string ⟨#[]⟩]) (t:=134) (by first | rfl | (simp only [World.size_alloc];done) | (simp only [World.size_alloc];omega) | simp))⟩ ?_
  rintro w17 ⟨e17,bB0_17,bB1_17,bB2_17⟩
  have HX17:=Lib.hid e17;have HB0_17:=Lib.hid bB0_17;have HB1_17:=Lib.hid bB1_17;have HB2_17:=Lib.hid bB2_17
  have HGEB2:Hid (w.heap.size ≤ w16.heap.size):=Lib.hid (by have:=HX16.out.size;first | omega | (simp only [];omega) | (simp;omega))
  clear e17 bB0_17 bB1_17 bB2_17
  have c0_0:=HB0_17.out.cell 0 rfl
  have c0_1:=HB0_17.out.cell 1 rfl
  have c0_2:=HB0_17.out.cell 2 rfl
  have c0_3:=HB0_17.out.cell 3 rfl
  go_wp2_with fail
  refine wp_loop_rounds 5 ?_
  rw [rounds_succ]
  clear c0_0 c0_1 c0_2 c0_3
  go_wp2_with fail
  refine (rmulz_as x0 D4 N.w HM0.out _ (HG.out.ext HX17.out) Hx0.out HD4B.out).mono ?_;rintro e w18 ⟨rfl,e18⟩
  have HX18:Hid (Ext w w18):=Lib.hid (HX17.out.trans e18)
  have HB1_18:=Lib.hid (Blk.ext HB1_17.out e18)
  have HB2_18:=Lib.hid (Blk.ext HB2_17.out e18)
  clear e18
  go_wp2_with fail
  refine (partsz_c N.w _ HN0B.out (by decide) (by decide)).mono ?_;rintro e w19 ⟨rfl,e19⟩
  have HX19:Hid (Ext w w19):=Lib.hid (HX18.out.trans e19)
  have HB1_19:=Lib.hid (Blk.ext HB1_18.out e19)
  have HB2_19:=Lib.hid (Blk.ext HB2_18.out e19)
  clear e19
  have c2_0:=HB2_19.out.cell 0 rfl
  have f2_0:=HB2_19.out.free 0
  go_upto_region 15 with fail
  refine wp_name (fun W => Ext w W∧Blk W (w.heap.size + 1) #[.int .i64 0,.int .i64 0,.int .i64 0,.int .i64 0] 22∧Blk W (w16.heap.size) #[.string (zs N.w),.string ⟨#[]⟩,.string ⟨#[]⟩,.string ⟨#[]⟩] 134) ⟨(HX19.out.setCell (by have:=HGEB2.out;first | omega | (simp only [];omega) | (simp;omega)) _),(HB1_19.out.other (a:=⟨w16.heap.size,0,none⟩) _ (by have:=HB1_16.out.lt;first | omega | (simp only [];omega) | (simp;omega))),(HB2_19.out.set 0 (.string (zs N.w)))⟩ ?_
  rintro w20 ⟨e20,bB1_20,bB2_20⟩
  have HX20:=Lib.hid e20;have HB1_20:=Lib.hid bB1_20;have HB2_20:=Lib.hid bB2_20
  clear e20 bB1_20 bB2_20 c2_0 f2_0
  have c2_0:=HB2_20.out.cell 0 rfl
  go_wp2_with fail
  refine (gcd0_as N.w J1 HJ1E.out _ (HG.out.ext HX20.out) HN0B.out (by decide)).mono ?_;rintro e w21 ⟨rfl,e21⟩
  have HX21:Hid (Ext w w21):=Lib.hid (HX20.out.trans e21)
  have HB1_21:=Lib.hid (Blk.ext HB1_20.out e21)
  have HB2_21:=Lib.hid (Blk.ext HB2_20.out e21)
  clear e21 c2_0
  have c2_0:=HB2_21.out.cell 0 rfl
  go_wp2_with fail
  refine (sign_as N.w 1 (Int.sign_eq_one_of_pos HW0.out) _).mono ?_;rintro e _ ⟨rfl,rfl⟩
  clear c2_0
  go_wp2_with fail
  rw [rounds_succ]
  go_wp2_with fail
  refine (rmulz_as x1 D4 N.x HM1.out _ (HG.out.ext HX21.out) Hx1.out HD4B.out).mono ?_;rintro e w22 ⟨rfl,e22⟩
  have HX22:Hid (Ext w w22):=Lib.hid (HX21.out.trans e22)
  have HB1_22:=Lib.hid (Blk.ext HB1_21.out e22)
  have HB2_22:=Lib.hid (Blk.ext HB2_21.out e22)
  clear e22
  go_wp2_with fail
  refine (partsz_c N.x _ HN1B.out (by decide) (by decide)).mono ?_;rintro e w23 ⟨rfl,e23⟩
  have HX23:Hid (Ext w w23):=Lib.hid (HX22.out.trans e23)
  have HB1_23:=Lib.hid (Blk.ext HB1_22.out e23)
  have HB2_23:=Lib.hid (Blk.ext HB2_22.out e23)
  clear e23
  have c2_1:=HB2_23.out.cell 1 rfl
  have f2_1:=HB2_23.out.free 1
  go_upto_region 15 with fail
  refine wp_name (fun W => Ext w W∧Blk W (w.heap.size + 1) #[.int .i64 0,.int .i64 0,.int .i64 0,.int .i64 0] 22∧Blk W (w16.heap.size) #[.string (zs N.w),.string (zs N.x),.string ⟨#[]⟩,.string ⟨#[]⟩] 134) ⟨(HX23.out.setCell (by have:=HGEB2.out;first | omega | (simp only [];omega) | (simp;omega)) _),(HB1_23.out.other (a:=⟨w16.heap.size,1,none⟩) _ (by have:=HB1_16.out.lt;first | omega | (simp only [];omega) | (simp;omega))),(HB2_23.out.set 1 (.string (zs N.x)))⟩ ?_
  rintro w24 ⟨e24,bB1_24,bB2_24⟩
  have HX24:=Lib.hid e24;have HB1_24:=Lib.hid bB1_24;have HB2_24:=Lib.hid bB2_24
  clear e24 bB1_24 bB2_24 c2_1 f2_1
  have c2_1:=HB2_24.out.cell 1 rfl
  go_wp2_with fail
  refine (gcd_as J1 N.x J2 HJ2E.out _ (HG.out.ext HX24.out) HJ1B.out HN1B.out (by decide) (by decide)).mono ?_;rintro e w25 ⟨rfl,e25⟩
  have HX25:Hid (Ext w w25):=Lib.hid (HX24.out.trans e25)
  have HB1_25:=Lib.hid (Blk.ext HB1_24.out e25)
  have HB2_25:=Lib.hid (Blk.ext HB2_24.out e25)
  clear e25 c2_1
  go_wp2_with fail
  rw [rounds_succ]
  go_wp2_with fail
  refine (rmulz_as x2 D4 N.y HM2.out _ (HG.out.ext HX25.out) Hx2.out HD4B.out).mono ?_;rintro e w26 ⟨rfl,e26⟩
  have HX26:Hid (Ext w w26):=Lib.hid (HX25.out.trans e26)
  have HB1_26:=Lib.hid (Blk.ext HB1_25.out e26)
  have HB2_26:=Lib.hid (Blk.ext HB2_25.out e26)
  clear e26
  go_wp2_with fail
  refine (partsz_c N.y _ HN2B.out (by decide) (by decide)).mono ?_;rintro e w27 ⟨rfl,e27⟩
  have HX27:Hid (Ext w w27):=Lib.hid (HX26.out.trans e27)
  have HB1_27:=Lib.hid (Blk.ext HB1_26.out e27)
  have HB2_27:=Lib.hid (Blk.ext HB2_26.out e27)
  clear e27
  have c2_2:=HB2_27.out.cell 2 rfl
  have f2_2:=HB2_27.out.free 2
  go_upto_region 15 with fail
  refine wp_name (fun W => Ext w W∧Blk W (w.heap.size + 1) #[.int .i64 0,.int .i64 0,.int .i64 0,.int .i64 0] 22∧Blk W (w16.heap.size) #[.string (zs N.w),.string (zs N.x),.string (zs N.y),.string ⟨#[]⟩] 134) ⟨(HX27.out.setCell (by have:=HGEB2.out;first | omega | (simp only [];omega) | (simp;omega)) _),(HB1_27.out.other (a:=⟨w16.heap.size,2,none⟩) _ (by have:=HB1_16.out.lt;first | omega | (simp only [];omega) | (simp;omega))),(HB2_27.out.set 2 (.string (zs N.y)))⟩ ?_
  rintro w28 ⟨e28,bB1_28,bB2_28⟩
  have HX28:=Lib.hid e28;have HB1_28:=Lib.hid bB1_28;have HB2_28:=Lib.hid bB2_28
  clear e28 bB1_28 bB2_28 c2_2 f2_2
  have c2_2:=HB2_28.out.cell 2 rfl
  go_wp2_with fail
  refine (gcd_as J2 N.y J3 HJ3E.out _ (HG.out.ext HX28.out) HJ2B.out HN2B.out (by decide) (by decide)).mono ?_;rintro e w29 ⟨rfl,e29⟩
  have HX29:Hid (Ext w w29):=Lib.hid (HX28.out.trans e29)
  have HB1_29:=Lib.hid (Blk.ext HB1_28.out e29)
  have HB2_29:=Lib.hid (Blk.ext HB2_28.out e29)
  clear e29 c2_2
  go_wp2_with fail
  rw [rounds_succ]
  go_wp2_with fail
  refine (rmulz_as x3 D4 N.z HM3.out _ (HG.out.ext HX29.out) Hx3.out HD4B.out).mono ?_;rintro e w30 ⟨rfl,e30⟩
  have HX30:Hid (Ext w w30):=Lib.hid (HX29.out.trans e30)
  have HB1_30:=Lib.hid (Blk.ext HB1_29.out e30)
  have HB2_30:=Lib.hid (Blk.ext HB2_29.out e30)
  clear e30
  go_wp2_with fail
  refine (partsz_c N.z _ HN3B.out (by decide) (by decide)).mono ?_;rintro e w31 ⟨rfl,e31⟩
  have HX31:Hid (Ext w w31):=Lib.hid (HX30.out.trans e31)
  have HB1_31:=Lib.hid (Blk.ext HB1_30.out e31)
  have HB2_31:=Lib.hid (Blk.ext HB2_30.out e31)
  clear e31
  have c2_3:=HB2_31.out.cell 3 rfl
  have f2_3:=HB2_31.out.free 3
  go_upto_region 15 with fail
  refine wp_name (fun W => Ext w W∧Blk W (w.heap.size + 1) #[.int .i64 0,.int .i64 0,.int .i64 0,.int .i64 0] 22∧Blk W (w16.heap.size) #[.string (zs N.w),.string (zs N.x),.string (zs N.y),.string (zs N.z)] 134) ⟨(HX31.out.setCell (by have:=HGEB2.out;first | omega | (simp only [];omega) | (simp;omega)) _),(HB1_31.out.other (a:=⟨w16.heap.size,3,none⟩) _ (by have:=HB1_16.out.lt;first | omega | (simp only [];omega) | (simp;omega))),(HB2_31.out.set 3 (.string (zs N.z)))⟩ ?_
  rintro w32 ⟨e32,bB1_32,bB2_32⟩
  have HX32:=Lib.hid e32;have HB1_32:=Lib.hid bB1_32;have HB2_32:=Lib.hid bB2_32
  clear e32 bB1_32 bB2_32 c2_3 f2_3
  have c2_3:=HB2_32.out.cell 3 rfl
  go_wp2_with fail
  refine (gcd_as J3 N.z J4 HJ4E.out _ (HG.out.ext HX32.out) HJ3B.out HN3B.out (by decide) (by decide)).mono ?_;rintro e w33 ⟨rfl,e33⟩
  have HX33:Hid (Ext w w33):=Lib.hid (HX32.out.trans e33)
  have HB1_33:=Lib.hid (Blk.ext HB1_32.out e33)
  have HB2_33:=Lib.hid (Blk.ext HB2_32.out e33)
  clear e33 c2_3
  go_wp2_with fail
  rw [rounds_succ]
  go_upto_region 22 with fail
  refine wp_name (fun W => Ext w W∧Blk W (w.heap.size + 1) #[.int .i64 0,.int .i64 0,.int .i64 0,.int .i64 0] 22∧Blk W (w16.heap.size) #[.string (zs N.w),.string (zs N.x),.string (zs N.y),.string (zs N.z)] 134∧Blk W (w33.heap.size) #[.int .i64 0,.int .i64 0,.int .i64 0,.int .i64 0] 22) ⟨(HX33.out.alloc _),(HB1_33.out.alloc _),(HB2_33.out.alloc _),(Blk.new' (w:=_) (cs:=#[.int .i64 0,.int .i64 0,.int .i64 0,.int .i64 0]) (t:=22) (by first | rfl | (simp only [World.size_alloc];done) | (simp only [World.size_alloc];omega) | simp))⟩ ?_
  rintro w34 ⟨e34,bB1_34,bB2_34,bB3_34⟩
  have HX34:=Lib.hid e34;have HB1_34:=Lib.hid bB1_34;have HB2_34:=Lib.hid bB2_34;have HB3_34:=Lib.hid bB3_34
  have HGEB3:Hid (w.heap.size ≤ w33.heap.size):=Lib.hid (by have:=HX33.out.size;first | omega | (simp only [];omega) | (simp;omega))
  clear e34 bB1_34 bB2_34 bB3_34
  have c2_0:=HB2_34.out.cell 0 rfl
  have c2_1:=HB2_34.out.cell 1 rfl
  have c2_2:=HB2_34.out.cell 2 rfl
  have c2_3:=HB2_34.out.cell 3 rfl
  go_wp2_with fail
  refine wp_loop_rounds 5 ?_
  rw [rounds_succ]
  clear c2_0 c2_1 c2_2 c2_3
  have hb0:=HI.out.w
  have pg0_:decide ((1000000:Int) < p.w) = false:=decide_eq_false (by omega)
  have pl0_:decide (p.w < -1000000) = false:=decide_eq_false (by omega)
  have HB0:=Lib.hid hb0;clear hb0
  go_wp2_with fail
  refine (div_as N.w J4 p.w HPD.out.1 _ (HG.out.ext HX34.out) HN0B.out HJ4B.out (by decide) (by decide) HJN.out).mono ?_;rintro e w35 ⟨rfl,e35⟩
  have HX35:Hid (Ext w w35):=Lib.hid (HX34.out.trans e35)
  have HB1_35:=Lib.hid (Blk.ext HB1_34.out e35)
  have HB3_35:=Lib.hid (Blk.ext HB3_34.out e35)
  clear e35
  go_wp2_with fail
  refine (ismall_in p.w _ (HG.out.ext HX35.out) (by have:=HB0.out;omega) (by have:=HB0.out;omega)).mono ?_;rintro e w36 ⟨rfl,e36⟩
  have HX36:Hid (Ext w w36):=Lib.hid (HX35.out.trans e36)
  have HB1_36:=Lib.hid (Blk.ext HB1_35.out e36)
  have HB3_36:=Lib.hid (Blk.ext HB3_35.out e36)
  clear e36
  have c3_0:=HB3_36.out.cell 0 rfl
  have f3_0:=HB3_36.out.free 0
  go_wp2_with fail
  rw [rounds_succ]
  clear c3_0 f3_0
  have hb1:=HI.out.x
  have pg1_:decide ((1000000:Int) < p.x) = false:=decide_eq_false (by omega)
  have pl1_:decide (p.x < -1000000) = false:=decide_eq_false (by omega)
  have HB1:=Lib.hid hb1;clear hb1
  go_wp2_with fail
  refine (div_as N.x J4 p.x HPD.out.2.1 _ (HG.out.ext (HX36.out.setCell (by have:=HGEB3.out;first | omega | (simp only [];omega) | (simp;omega)) _)) HN1B.out HJ4B.out (by decide) (by decide) HJN.out).mono ?_;rintro e w37 ⟨rfl,e37⟩
  have HX37:Hid (Ext w w37):=Lib.hid ((HX36.out.setCell (by have:=HGEB3.out;first | omega | (simp only [];omega) | (simp;omega)) _).trans e37)
  have HB1_37:Hid (Blk w37 (w.heap.size + 1) #[.int .i64 0,.int .i64 0,.int .i64 0,.int .i64 0] 22):=Lib.hid (Blk.ext (HB1_36.out.other (a:=⟨w33.heap.size,0,none⟩) _ (by have:=HB1_33.out.lt;first | omega | (simp only [];omega) | (simp;omega))) e37)
  have HB3_37:Hid (Blk w37 (w33.heap.size) #[.int .i64 p.w,.int .i64 0,.int .i64 0,.int .i64 0] 22):=Lib.hid (Blk.ext (HB3_36.out.set 0 (.int .i64 p.w)) e37)
  clear e37
  go_wp2_with fail
  refine (ismall_in p.x _ (HG.out.ext HX37.out) (by have:=HB1.out;omega) (by have:=HB1.out;omega)).mono ?_;rintro e w38 ⟨rfl,e38⟩
  have HX38:Hid (Ext w w38):=Lib.hid (HX37.out.trans e38)
  have HB1_38:=Lib.hid (Blk.ext HB1_37.out e38)
  have HB3_38:=Lib.hid (Blk.ext HB3_37.out e38)
  clear e38
  have c3_1:=HB3_38.out.cell 1 rfl
  have f3_1:=HB3_38.out.free 1
  go_wp2_with fail
  rw [rounds_succ]
  clear c3_1 f3_1
  have hb2:=HI.out.y
  have pg2_:decide ((1000000:Int) < p.y) = false:=decide_eq_false (by omega)
  have pl2_:decide (p.y < -1000000) = false:=decide_eq_false (by omega)
  have HB2:=Lib.hid hb2;clear hb2
  go_wp2_with fail
  refine (div_as N.y J4 p.y HPD.out.2.2.1 _ (HG.out.ext (HX38.out.setCell (by have:=HGEB3.out;first | omega | (simp only [];omega) | (simp;omega)) _)) HN2B.out HJ4B.out (by decide) (by decide) HJN.out).mono ?_;rintro e w39 ⟨rfl,e39⟩
  have HX39:Hid (Ext w w39):=Lib.hid ((HX38.out.setCell (by have:=HGEB3.out;first | omega | (simp only [];omega) | (simp;omega)) _).trans e39)
  have HB1_39:Hid (Blk w39 (w.heap.size + 1) #[.int .i64 0,.int .i64 0,.int .i64 0,.int .i64 0] 22):=Lib.hid (Blk.ext (HB1_38.out.other (a:=⟨w33.heap.size,1,none⟩) _ (by have:=HB1_33.out.lt;first | omega | (simp only [];omega) | (simp;omega))) e39)
  have HB3_39:Hid (Blk w39 (w33.heap.size) #[.int .i64 p.w,.int .i64 p.x,.int .i64 0,.int .i64 0] 22):=Lib.hid (Blk.ext (HB3_38.out.set 1 (.int .i64 p.x)) e39)
  clear e39
  go_wp2_with fail
  refine (ismall_in p.y _ (HG.out.ext HX39.out) (by have:=HB2.out;omega) (by have:=HB2.out;omega)).mono ?_;rintro e w40 ⟨rfl,e40⟩
  have HX40:Hid (Ext w w40):=Lib.hid (HX39.out.trans e40)
  have HB1_40:=Lib.hid (Blk.ext HB1_39.out e40)
  have HB3_40:=Lib.hid (Blk.ext HB3_39.out e40)
  clear e40
  have c3_2:=HB3_40.out.cell 2 rfl
  have f3_2:=HB3_40.out.free 2
  go_wp2_with fail
  rw [rounds_succ]
  clear c3_2 f3_2
  have hb3:=HI.out.z
  have pg3_:decide ((1000000:Int) < p.z) = false:=decide_eq_false (by omega)
  have pl3_:decide (p.z < -1000000) = false:=decide_eq_false (by omega)
  have HB3:=Lib.hid hb3;clear hb3
  go_wp2_with fail
  refine (div_as N.z J4 p.z HPD.out.2.2.2 _ (HG.out.ext (HX40.out.setCell (by have:=HGEB3.out;first | omega | (simp only [];omega) | (simp;omega)) _)) HN3B.out HJ4B.out (by decide) (by decide) HJN.out).mono ?_;rintro e w41 ⟨rfl,e41⟩
  have HX41:Hid (Ext w w41):=Lib.hid ((HX40.out.setCell (by have:=HGEB3.out;first | omega | (simp only [];omega) | (simp;omega)) _).trans e41)
  have HB1_41:Hid (Blk w41 (w.heap.size + 1) #[.int .i64 0,.int .i64 0,.int .i64 0,.int .i64 0] 22):=Lib.hid (Blk.ext (HB1_40.out.other (a:=⟨w33.heap.size,2,none⟩) _ (by have:=HB1_33.out.lt;first | omega | (simp only [];omega) | (simp;omega))) e41)
  have HB3_41:Hid (Blk w41 (w33.heap.size) #[.int .i64 p.w,.int .i64 p.x,.int .i64 p.y,.int .i64 0] 22):=Lib.hid (Blk.ext (HB3_40.out.set 2 (.int .i64 p.y)) e41)
  clear e41
  go_wp2_with fail
  refine (ismall_in p.z _ (HG.out.ext HX41.out) (by have:=HB3.out;omega) (by have:=HB3.out;omega)).mono ?_;rintro e w42 ⟨rfl,e42⟩
  have HX42:Hid (Ext w w42):=Lib.hid (HX41.out.trans e42)
  have HB1_42:=Lib.hid (Blk.ext HB1_41.out e42)
  have HB3_42:=Lib.hid (Blk.ext HB3_41.out e42)
  clear e42
  have c3_3:=HB3_42.out.cell 3 rfl
  have f3_3:=HB3_42.out.free 3
  go_wp2_with fail
  rw [rounds_succ]
  clear c3_3 f3_3
  go_upto_region 33 with fail
  refine wp_name (fun W => Ext w W∧Blk W (w.heap.size + 1) #[.int .i64 0,.int .i64 0,.int .i64 0,.int .i64 0] 22∧Blk W (w33.heap.size) #[.int .i64 p.w,.int .i64 p.x,.int .i64 p.y,.int .i64 p.z] 22) ⟨(HX42.out.setCell (by have:=HGEB3.out;first | omega | (simp only [];omega) | (simp;omega)) _),(HB1_42.out.other (a:=⟨w33.heap.size,3,none⟩) _ (by have:=HB1_33.out.lt;first | omega | (simp only [];omega) | (simp;omega))),(HB3_42.out.set 3 (.int .i64 p.z))⟩ ?_
  rintro w43 ⟨e43,bB1_43,bB3_43⟩
  have HX43:=Lib.hid e43;have HB1_43:=Lib.hid bB1_43;have HB3_43:=Lib.hid bB3_43
  clear e43 bB1_43 bB3_43
  have c3_0:=HB3_43.out.cell 0 rfl
  have c3_1:=HB3_43.out.cell 1 rfl
  have c3_2:=HB3_43.out.cell 2 rfl
  have c3_3:=HB3_43.out.cell 3 rfl
  have c1_0:=HB1_43.out.cell 0 rfl
  have f1_0:=HB1_43.out.free 0
  have c1_1:=HB1_43.out.cell 1 rfl
  have f1_1:=HB1_43.out.free 1
  have c1_2:=HB1_43.out.cell 2 rfl
  have f1_2:=HB1_43.out.free 2
  have c1_3:=HB1_43.out.cell 3 rfl
  have f1_3:=HB1_43.out.free 3
  repeat (first | go_step | go_guarded | go_skip | go_upon)
  refine wp_name (fun W => Ext w W∧Blk W (w.heap.size + 1) #[.int .i64 p.w,.int .i64 p.x,.int .i64 p.y,.int .i64 p.z] 22) ⟨((((HX43.out.setCell (by have:=HGEB1.out;first | omega | (simp only [];omega) | (simp;omega)) _).setCell (by have:=HGEB1.out;first | omega | (simp only [];omega) | (simp;omega)) _).setCell (by have:=HGEB1.out;first | omega | (simp only [];omega) | (simp;omega)) _).setCell (by have:=HGEB1.out;first | omega | (simp only [];omega) | (simp;omega)) _),((((HB1_43.out.set 0 (.int .i64 p.w)).set 1 (.int .i64 p.x)).set 2 (.int .i64 p.y)).set 3 (.int .i64 p.z))⟩ ?_
  rintro w44 ⟨e44,bB1_44⟩
  have HX44:=Lib.hid e44;have HB1_44:=Lib.hid bB1_44
  clear e44 bB1_44 c3_0 c3_1 c3_2 c3_3 c1_0 f1_0 c1_1 f1_1 c1_2 f1_2 c1_3 f1_3
  have gB1_0:=HB1_44.out.cell 0 rfl
  have gB1_1:=HB1_44.out.cell 1 rfl
  have gB1_2:=HB1_44.out.cell 2 rfl
  have gB1_3:=HB1_44.out.cell 3 rfl
  refine bodyPost_ret (v:=.tuple #[.agg #[.int .i64 p.w,.int .i64 p.x,.int .i64 p.y,.int .i64 p.z],.int .i64 0]) (by simp [results,Tryz.results45,go_sem,gB1_0,gB1_1,gB1_2,gB1_3]) rfl ⟨rfl,HX44.out⟩

set_option maxRecDepth 100000 in
set_option maxHeartbeats 32000000 in
theorem rwhole_no (x0 x1 x2 x3:Rat) (N p:Q4) (w:World) (g:Gd w) (h0:QB 100 x0) (h1:QB 100 x1) (h2:QB 100 x2) (h3:QB 100 x3) (hn:num4 x0 x1 x2 x3 = N) (h00:0 < x0) (hp:prim4 N = p) (hi:¬ Q4In p):Calls Tryz.prog 45 #[.agg #[.string (qs x0),.string (qs x1),.string (qs x2),.string (qs x3)]] w (Ret w (.tuple #[.agg #[.int .i64 0,.int .i64 0,.int .i64 0,.int .i64 0],.int .i64 4])):=by
  have Hx0:=Lib.hid h0
  have Hx1:=Lib.hid h1
  have Hx2:=Lib.hid h2
  have Hx3:=Lib.hid h3
  have HN:=Lib.hid hn
  have H00:=Lib.hid h00
  have HP:=Lib.hid hp
  have HI:=Lib.hid hi
  have HG:=Lib.hid g
  clear h0 h1 h2 h3 hn h00 hp hi g
  have HZ:Hid (¬ N.zero):=Lib.hid (HN.out ▸ num4_nz (fun h => absurd h.1 (Rat.ne_of_gt H00.out)))
  obtain ⟨c0,e_⟩:∃ n,(x0.den:Int) = n:=⟨_,rfl⟩
  have Hc0E:=Lib.hid e_;have Hc0B:Hid (IB 100 c0):=Lib.hid (by rw [← e_];exact QB.iden Hx0.out);have Hc0P:Hid (0 < c0):=Lib.hid (by rw [← e_];exact qden_pos _);clear e_
  obtain ⟨G0,e_⟩:∃ n,(Int.gcd 1 c0:Int) = n:=⟨_,rfl⟩
  have HG0E:=Lib.hid e_;have HG0B:Hid (IB 100 G0):=Lib.hid (by rw [← e_];exact IB.gcd IB.one Hc0B.out);have HG0N:Hid (G0 ≠ 0):=Lib.hid (by exact gcd_nz e_ Hc0P.out);clear e_
  obtain ⟨K0,e_⟩:∃ n,c0 / G0 = n:=⟨_,rfl⟩
  have HK0E:=Lib.hid e_;have HK0B:Hid (IB 100 K0):=Lib.hid (by rw [← e_];exact Hc0B.out.div _);clear e_
  obtain ⟨D1,e_⟩:∃ n,1 * K0 = n:=⟨_,rfl⟩
  have HD1E:=Lib.hid e_;have HD1B:Hid (IB 101 D1):=Lib.hid (by rw [← e_];exact IB.one.mul HK0B.out);clear e_
  obtain ⟨c1,e_⟩:∃ n,(x1.den:Int) = n:=⟨_,rfl⟩
  have Hc1E:=Lib.hid e_;have Hc1B:Hid (IB 100 c1):=Lib.hid (by rw [← e_];exact QB.iden Hx1.out);have Hc1P:Hid (0 < c1):=Lib.hid (by rw [← e_];exact qden_pos _);clear e_
  obtain ⟨G1,e_⟩:∃ n,(Int.gcd D1 c1:Int) = n:=⟨_,rfl⟩
  have HG1E:=Lib.hid e_;have HG1B:Hid (IB 101 G1):=Lib.hid (by rw [← e_];exact IB.gcd HD1B.out Hc1B.out);have HG1N:Hid (G1 ≠ 0):=Lib.hid (by exact gcd_nz e_ Hc1P.out);clear e_
  obtain ⟨K1,e_⟩:∃ n,c1 / G1 = n:=⟨_,rfl⟩
  have HK1E:=Lib.hid e_;have HK1B:Hid (IB 100 K1):=Lib.hid (by rw [← e_];exact Hc1B.out.div _);clear e_
  obtain ⟨D2,e_⟩:∃ n,D1 * K1 = n:=⟨_,rfl⟩
  have HD2E:=Lib.hid e_;have HD2B:Hid (IB 201 D2):=Lib.hid (by rw [← e_];exact HD1B.out.mul HK1B.out);clear e_
  obtain ⟨c2,e_⟩:∃ n,(x2.den:Int) = n:=⟨_,rfl⟩
  have Hc2E:=Lib.hid e_;have Hc2B:Hid (IB 100 c2):=Lib.hid (by rw [← e_];exact QB.iden Hx2.out);have Hc2P:Hid (0 < c2):=Lib.hid (by rw [← e_];exact qden_pos _);clear e_
  obtain ⟨G2,e_⟩:∃ n,(Int.gcd D2 c2:Int) = n:=⟨_,rfl⟩
  have HG2E:=Lib.hid e_;have HG2B:Hid (IB 201 G2):=Lib.hid (by rw [← e_];exact IB.gcd HD2B.out Hc2B.out);have HG2N:Hid (G2 ≠ 0):=Lib.hid (by exact gcd_nz e_ Hc2P.out);clear e_
  obtain ⟨K2,e_⟩:∃ n,c2 / G2 = n:=⟨_,rfl⟩
  have HK2E:=Lib.hid e_;have HK2B:Hid (IB 100 K2):=Lib.hid (by rw [← e_];exact Hc2B.out.div _);clear e_
  obtain ⟨D3,e_⟩:∃ n,D2 * K2 = n:=⟨_,rfl⟩
  have HD3E:=Lib.hid e_;have HD3B:Hid (IB 301 D3):=Lib.hid (by rw [← e_];exact HD2B.out.mul HK2B.out);clear e_
  obtain ⟨c3,e_⟩:∃ n,(x3.den:Int) = n:=⟨_,rfl⟩
  have Hc3E:=Lib.hid e_;have Hc3B:Hid (IB 100 c3):=Lib.hid (by rw [← e_];exact QB.iden Hx3.out);have Hc3P:Hid (0 < c3):=Lib.hid (by rw [← e_];exact qden_pos _);clear e_
  obtain ⟨G3,e_⟩:∃ n,(Int.gcd D3 c3:Int) = n:=⟨_,rfl⟩
  have HG3E:=Lib.hid e_;have HG3B:Hid (IB 301 G3):=Lib.hid (by rw [← e_];exact IB.gcd HD3B.out Hc3B.out);have HG3N:Hid (G3 ≠ 0):=Lib.hid (by exact gcd_nz e_ Hc3P.out);clear e_
  obtain ⟨K3,e_⟩:∃ n,c3 / G3 = n:=⟨_,rfl⟩
  have HK3E:=Lib.hid e_;have HK3B:Hid (IB 100 K3):=Lib.hid (by rw [← e_];exact Hc3B.out.div _);clear e_
  obtain ⟨D4,e_⟩:∃ n,D3 * K3 = n:=⟨_,rfl⟩
  have HD4E:=Lib.hid e_;have HD4B:Hid (IB 401 D4):=Lib.hid (by rw [← e_];exact HD3B.out.mul HK3B.out);clear e_
  have HD4E2:Hid (den4 x0 x1 x2 x3 = D4):=Lib.hid (by unfold den4 lc;rw [Hc0E.out,Hc1E.out,Hc2E.out,Hc3E.out,HG0E.out,HK0E.out,HD1E.out,HG1E.out,HK1E.out,HD2E.out,HG2E.out,HK2E.out,HD3E.out,HG3E.out,HK3E.out,HD4E.out])
  have HM0:Hid (x0 * (D4:Rat) = (N.w:Rat)):=Lib.hid (by rw [← HD4E2.out,← HN.out];exact num4_w x0 x1 x2 x3)
  have HN0B:Hid (IB 501 N.w):=Lib.hid (num_ib HM0.out Hx0.out HD4B.out (by decide))
  have HM1:Hid (x1 * (D4:Rat) = (N.x:Rat)):=Lib.hid (by rw [← HD4E2.out,← HN.out];exact num4_x x0 x1 x2 x3)
  have HN1B:Hid (IB 501 N.x):=Lib.hid (num_ib HM1.out Hx1.out HD4B.out (by decide))
  have HM2:Hid (x2 * (D4:Rat) = (N.y:Rat)):=Lib.hid (by rw [← HD4E2.out,← HN.out];exact num4_y x0 x1 x2 x3)
  have HN2B:Hid (IB 501 N.y):=Lib.hid (num_ib HM2.out Hx2.out HD4B.out (by decide))
  have HM3:Hid (x3 * (D4:Rat) = (N.z:Rat)):=Lib.hid (by rw [← HD4E2.out,← HN.out];exact num4_z x0 x1 x2 x3)
  have HN3B:Hid (IB 501 N.z):=Lib.hid (num_ib HM3.out Hx3.out HD4B.out (by decide))
  obtain ⟨J1,e_⟩:∃ n,(Int.gcd 0 N.w:Int) = n:=⟨_,rfl⟩
  have HJ1E:=Lib.hid e_;have HJ1B:Hid (IB 501 J1):=Lib.hid (by rw [← e_];exact IB.gcd (IB.zero.mono (by decide:1 ≤ 501)) HN0B.out);clear e_
  obtain ⟨J2,e_⟩:∃ n,(Int.gcd J1 N.x:Int) = n:=⟨_,rfl⟩
  have HJ2E:=Lib.hid e_;have HJ2B:Hid (IB 501 J2):=Lib.hid (by rw [← e_];exact IB.gcd HJ1B.out HN1B.out);clear e_
  obtain ⟨J3,e_⟩:∃ n,(Int.gcd J2 N.y:Int) = n:=⟨_,rfl⟩
  have HJ3E:=Lib.hid e_;have HJ3B:Hid (IB 501 J3):=Lib.hid (by rw [← e_];exact IB.gcd HJ2B.out HN2B.out);clear e_
  obtain ⟨J4,e_⟩:∃ n,(Int.gcd J3 N.z:Int) = n:=⟨_,rfl⟩
  have HJ4E:=Lib.hid e_;have HJ4B:Hid (IB 501 J4):=Lib.hid (by rw [← e_];exact IB.gcd HJ3B.out HN3B.out);clear e_
  have HJ4:Hid ((gcd4 N:Int) = J4):=Lib.hid (by rw [← gcd4_int,HJ1E.out,HJ2E.out,HJ3E.out,HJ4E.out])
  have HJN:Hid (J4 ≠ 0):=Lib.hid (by have:=gcd4_pos HZ.out;have:=HJ4.out;omega)
  have HW0:Hid (0 < N.w):=Lib.hid (HN.out ▸ num4_pos H00.out)
  have HSE:Hid (sg4 N = 1):=Lib.hid (sg4_w HW0.out)
  have HPD:=Lib.hid (prim4_pos HZ.out HSE.out HJ4.out HP.out)
  have HPB:Hid (IB 501 p.w∧IB 501 p.x∧IB 501 p.y∧IB 501 p.z):=Lib.hid (by
    have e:=prim4_ediv HZ.out
    rw [HP.out] at e
    rw [e.1,e.2.1,e.2.2.1,e.2.2.2]
    exact ⟨HN0B.out.div _,HN1B.out.div _,HN2B.out.div _,HN3B.out.div _⟩)
  have ix0:∀ W,(Instr.index 90 (.agg #[.string (qs x0),.string (qs x1),.string (qs x2),.string (qs x3)]) (.int .i64 0)).run Tryz.prog W = .ok (.string (qs x0)) W:=fun W => by kernel_rfl
  have ix1:∀ W,(Instr.index 90 (.agg #[.string (qs x0),.string (qs x1),.string (qs x2),.string (qs x3)]) (.int .i64 1)).run Tryz.prog W = .ok (.string (qs x1)) W:=fun W => by kernel_rfl
  have ix2:∀ W,(Instr.index 90 (.agg #[.string (qs x0),.string (qs x1),.string (qs x2),.string (qs x3)]) (.int .i64 2)).run Tryz.prog W = .ok (.string (qs x2)) W:=fun W => by kernel_rfl
  have ix3:∀ W,(Instr.index 90 (.agg #[.string (qs x0),.string (qs x1),.string (qs x2),.string (qs x3)]) (.int .i64 3)).run Tryz.prog W = .ok (.string (qs x3)) W:=fun W => by kernel_rfl
  have ix4:∀ W,(Instr.index 90 (.agg #[.string (qs x0),.string (qs x1),.string (qs x2),.string (qs x3)]) (.int .i64 0)).run Tryz.prog W = .ok (.string (qs x0)) W:=fun W => by kernel_rfl
  have ix5:∀ W,(Instr.index 90 (.agg #[.string (qs x0),.string (qs x1),.string (qs x2),.string (qs x3)]) (.int .i64 1)).run Tryz.prog W = .ok (.string (qs x1)) W:=fun W => by kernel_rfl
  have ix6:∀ W,(Instr.index 90 (.agg #[.string (qs x0),.string (qs x1),.string (qs x2),.string (qs x3)]) (.int .i64 2)).run Tryz.prog W = .ok (.string (qs x2)) W:=fun W => by kernel_rfl
  have ix7:∀ W,(Instr.index 90 (.agg #[.string (qs x0),.string (qs x1),.string (qs x2),.string (qs x3)]) (.int .i64 3)).run Tryz.prog W = .ok (.string (qs x3)) W:=fun W => by kernel_rfl
  have ix8:∀ W,(Instr.index 134 (.agg #[.string (zs N.w),.string (zs N.x),.string (zs N.y),.string (zs N.z)]) (.int .i64 0)).run Tryz.prog W = .ok (.string (zs N.w)) W:=fun W => by kernel_rfl
  have ix9:∀ W,(Instr.index 134 (.agg #[.string (zs N.w),.string (zs N.x),.string (zs N.y),.string (zs N.z)]) (.int .i64 1)).run Tryz.prog W = .ok (.string (zs N.x)) W:=fun W => by kernel_rfl
  have ix10:∀ W,(Instr.index 134 (.agg #[.string (zs N.w),.string (zs N.x),.string (zs N.y),.string (zs N.z)]) (.int .i64 2)).run Tryz.prog W = .ok (.string (zs N.y)) W:=fun W => by kernel_rfl
  have ix11:∀ W,(Instr.index 134 (.agg #[.string (zs N.w),.string (zs N.x),.string (zs N.y),.string (zs N.z)]) (.int .i64 3)).run Tryz.prog W = .ok (.string (zs N.z)) W:=fun W => by kernel_rfl
  have ix12:∀ W,(Instr.index 134 (.agg #[.string (zs N.w),.string (zs N.x),.string (zs N.y),.string (zs N.z)]) (.int .i64 3)).run Tryz.prog W = .ok (.string (zs N.z)) W:=fun W => by kernel_rfl
  have ix13:∀ W,(Instr.index 134 (.agg #[.string (zs N.w),.string (zs N.x),.string (zs N.y),.string (zs N.z)]) (.int .i64 3)).run Tryz.prog W = .ok (.string (zs N.z)) W:=fun W => by kernel_rfl
  have ix14:∀ W,(Instr.index 134 (.agg #[.string (zs N.w),.string (zs N.x),.string (zs N.y),.string (zs N.z)]) (.int .i64 3)).run Tryz.prog W = .ok (.string (zs N.z)) W:=fun W => by kernel_rfl
  have ix15:∀ W,(Instr.index 134 (.agg #[.string (zs N.w),.string (zs N.x),.string (zs N.y),.string (zs N.z)]) (.int .i64 2)).run Tryz.prog W = .ok (.string (zs N.y)) W:=fun W => by kernel_rfl
  have ix16:∀ W,(Instr.index 134 (.agg #[.string (zs N.w),.string (zs N.x),.string (zs N.y),.string (zs N.z)]) (.int .i64 2)).run Tryz.prog W = .ok (.string (zs N.y)) W:=fun W => by kernel_rfl
  have ix17:∀ W,(Instr.index 134 (.agg #[.string (zs N.w),.string (zs N.x),.string (zs N.y),.string (zs N.z)]) (.int .i64 2)).run Tryz.prog W = .ok (.string (zs N.y)) W:=fun W => by kernel_rfl
  have ix18:∀ W,(Instr.index 134 (.agg #[.string (zs N.w),.string (zs N.x),.string (zs N.y),.string (zs N.z)]) (.int .i64 1)).run Tryz.prog W = .ok (.string (zs N.x)) W:=fun W => by kernel_rfl
  have ix19:∀ W,(Instr.index 134 (.agg #[.string (zs N.w),.string (zs N.x),.string (zs N.y),.string (zs N.z)]) (.int .i64 1)).run Tryz.prog W = .ok (.string (zs N.x)) W:=fun W => by kernel_rfl
  have ix20:∀ W,(Instr.index 134 (.agg #[.string (zs N.w),.string (zs N.x),.string (zs N.y),.string (zs N.z)]) (.int .i64 1)).run Tryz.prog W = .ok (.string (zs N.x)) W:=fun W => by kernel_rfl
  have ix21:∀ W,(Instr.index 134 (.agg #[.string (zs N.w),.string (zs N.x),.string (zs N.y),.string (zs N.z)]) (.int .i64 0)).run Tryz.prog W = .ok (.string (zs N.w)) W:=fun W => by kernel_rfl
  have ix22:∀ W,(Instr.index 134 (.agg #[.string (zs N.w),.string (zs N.x),.string (zs N.y),.string (zs N.z)]) (.int .i64 0)).run Tryz.prog W = .ok (.string (zs N.w)) W:=fun W => by kernel_rfl
  have ix23:∀ W,(Instr.index 134 (.agg #[.string (zs N.w),.string (zs N.x),.string (zs N.y),.string (zs N.z)]) (.int .i64 0)).run Tryz.prog W = .ok (.string (zs N.w)) W:=fun W => by kernel_rfl
  go_enter Tryz.func45,Tryz.ntmps45
  go_wp2_with fail
  refine wp_loop_rounds 5 ?_
  rw [rounds_succ]
  go_wp2_with fail
  refine (parts_as x0 c0 Hc0E.out _ (HG.out.ext (((Ext.refl w).alloc _).alloc _)) Hx0.out).mono ?_;rintro e w1 ⟨rfl,e1⟩
  have HX1:Hid (Ext w w1):=Lib.hid ((((Ext.refl w).alloc _).alloc _).trans e1)
  have HB0_1:Hid (Blk w1 (w.heap.size) #[.string (qs x0),.string (qs x1),.string (qs x2),.string (qs x3)] 90):=Lib.hid (Blk.ext ((Blk.new' (w:=_) (cs:=#[.string (qs x0),.string (qs x1),.string (qs x2),.string (qs x3)]) (t:=90) (by first | rfl | (simp only [World.size_alloc];done) | (simp only [World.size_alloc];omega) | simp)).alloc _) e1)
  have HB1_1:Hid (Blk w1 (w.heap.size + 1) #[.int .i64 0,.int .i64 0,.int .i64 0,.int .i64 0] 22):=Lib.hid (Blk.ext (Blk.new' (w:=_) (cs:=#[.int .i64 0,.int .i64 0,.int .i64 0,.int .i64 0]) (t:=22) (by first | rfl | (simp only [World.size_alloc];done) | (simp only [World.size_alloc];omega) | simp)) e1)
  have HGEB0:Hid (w.heap.size ≤ w.heap.size):=Lib.hid (by first | omega | (simp only [];omega) | (simp;omega))
  have HGEB1:Hid (w.heap.size ≤ w.heap.size + 1):=Lib.hid (by first | omega | (simp only [];omega) | (simp;omega))
  clear e1
  go_wp2_with fail
  refine (gcd1_as c0 G0 HG0E.out _ (HG.out.ext HX1.out) Hc0B.out).mono ?_;rintro e w2 ⟨rfl,e2⟩
  have HX2:Hid (Ext w w2):=Lib.hid (HX1.out.trans e2)
  have HB0_2:=Lib.hid (Blk.ext HB0_1.out e2)
  have HB1_2:=Lib.hid (Blk.ext HB1_1.out e2)
  clear e2
  go_wp2_with fail
  refine (div_as c0 G0 K0 HK0E.out _ (HG.out.ext HX2.out) Hc0B.out HG0B.out (by decide) (by decide) HG0N.out).mono ?_;rintro e w3 ⟨rfl,e3⟩
  have HX3:Hid (Ext w w3):=Lib.hid (HX2.out.trans e3)
  have HB0_3:=Lib.hid (Blk.ext HB0_2.out e3)
  have HB1_3:=Lib.hid (Blk.ext HB1_2.out e3)
  clear e3
  go_wp2_with fail
  refine (imul1_as K0 D1 HD1E.out _ (HG.out.ext HX3.out) HK0B.out (by decide)).mono ?_;rintro e w4 ⟨rfl,e4⟩
  have HX4:Hid (Ext w w4):=Lib.hid (HX3.out.trans e4)
  have HB0_4:=Lib.hid (Blk.ext HB0_3.out e4)
  have HB1_4:=Lib.hid (Blk.ext HB1_3.out e4)
  clear e4
  go_wp2_with fail
  rw [rounds_succ]
  go_wp2_with fail
  refine (parts_as x1 c1 Hc1E.out _ (HG.out.ext HX4.out) Hx1.out).mono ?_;rintro e w5 ⟨rfl,e5⟩
  have HX5:Hid (Ext w w5):=Lib.hid (HX4.out.trans e5)
  have HB0_5:=Lib.hid (Blk.ext HB0_4.out e5)
  have HB1_5:=Lib.hid (Blk.ext HB1_4.out e5)
  clear e5
  go_wp2_with fail
  refine (gcd_as D1 c1 G1 HG1E.out _ (HG.out.ext HX5.out) HD1B.out Hc1B.out (by decide) (by decide)).mono ?_;rintro e w6 ⟨rfl,e6⟩
  have HX6:Hid (Ext w w6):=Lib.hid (HX5.out.trans e6)
  have HB0_6:=Lib.hid (Blk.ext HB0_5.out e6)
  have HB1_6:=Lib.hid (Blk.ext HB1_5.out e6)
  clear e6
  go_wp2_with fail
  refine (div_as c1 G1 K1 HK1E.out _ (HG.out.ext HX6.out) Hc1B.out HG1B.out (by decide) (by decide) HG1N.out).mono ?_;rintro e w7 ⟨rfl,e7⟩
  have HX7:Hid (Ext w w7):=Lib.hid (HX6.out.trans e7)
  have HB0_7:=Lib.hid (Blk.ext HB0_6.out e7)
  have HB1_7:=Lib.hid (Blk.ext HB1_6.out e7)
  clear e7
  go_wp2_with fail
  refine (imul_as D1 K1 D2 HD2E.out _ (HG.out.ext HX7.out) HD1B.out HK1B.out (by decide) (by decide)).mono ?_;rintro e w8 ⟨rfl,e8⟩
  have HX8:Hid (Ext w w8):=Lib.hid (HX7.out.trans e8)
  have HB0_8:=Lib.hid (Blk.ext HB0_7.out e8)
  have HB1_8:=Lib.hid (Blk.ext HB1_7.out e8)
  clear e8
  go_wp2_with fail
  rw [rounds_succ]
  go_wp2_with fail
  refine (parts_as x2 c2 Hc2E.out _ (HG.out.ext HX8.out) Hx2.out).mono ?_;rintro e w9 ⟨rfl,e9⟩
  have HX9:Hid (Ext w w9):=Lib.hid (HX8.out.trans e9)
  have HB0_9:=Lib.hid (Blk.ext HB0_8.out e9)
  have HB1_9:=Lib.hid (Blk.ext HB1_8.out e9)
  clear e9
  go_wp2_with fail
  refine (gcd_as D2 c2 G2 HG2E.out _ (HG.out.ext HX9.out) HD2B.out Hc2B.out (by decide) (by decide)).mono ?_;rintro e w10 ⟨rfl,e10⟩
  have HX10:Hid (Ext w w10):=Lib.hid (HX9.out.trans e10)
  have HB0_10:=Lib.hid (Blk.ext HB0_9.out e10)
  have HB1_10:=Lib.hid (Blk.ext HB1_9.out e10)
  clear e10
  go_wp2_with fail
  refine (div_as c2 G2 K2 HK2E.out _ (HG.out.ext HX10.out) Hc2B.out HG2B.out (by decide) (by decide) HG2N.out).mono ?_;rintro e w11 ⟨rfl,e11⟩
  have HX11:Hid (Ext w w11):=Lib.hid (HX10.out.trans e11)
  have HB0_11:=Lib.hid (Blk.ext HB0_10.out e11)
  have HB1_11:=Lib.hid (Blk.ext HB1_10.out e11)
  clear e11
  go_wp2_with fail
  refine (imul_as D2 K2 D3 HD3E.out _ (HG.out.ext HX11.out) HD2B.out HK2B.out (by decide) (by decide)).mono ?_;rintro e w12 ⟨rfl,e12⟩
  have HX12:Hid (Ext w w12):=Lib.hid (HX11.out.trans e12)
  have HB0_12:=Lib.hid (Blk.ext HB0_11.out e12)
  have HB1_12:=Lib.hid (Blk.ext HB1_11.out e12)
  clear e12
  go_wp2_with fail
  rw [rounds_succ]
  go_wp2_with fail
  refine (parts_as x3 c3 Hc3E.out _ (HG.out.ext HX12.out) Hx3.out).mono ?_;rintro e w13 ⟨rfl,e13⟩
  have HX13:Hid (Ext w w13):=Lib.hid (HX12.out.trans e13)
  have HB0_13:=Lib.hid (Blk.ext HB0_12.out e13)
  have HB1_13:=Lib.hid (Blk.ext HB1_12.out e13)
  clear e13
  go_wp2_with fail
  refine (gcd_as D3 c3 G3 HG3E.out _ (HG.out.ext HX13.out) HD3B.out Hc3B.out (by decide) (by decide)).mono ?_;rintro e w14 ⟨rfl,e14⟩
  have HX14:Hid (Ext w w14):=Lib.hid (HX13.out.trans e14)
  have HB0_14:=Lib.hid (Blk.ext HB0_13.out e14)
  have HB1_14:=Lib.hid (Blk.ext HB1_13.out e14)
  clear e14
  go_wp2_with fail
  refine (div_as c3 G3 K3 HK3E.out _ (HG.out.ext HX14.out) Hc3B.out HG3B.out (by decide) (by decide) HG3N.out).mono ?_;rintro e w15 ⟨rfl,e15⟩
  have HX15:Hid (Ext w w15):=Lib.hid (HX14.out.trans e15)
  have HB0_15:=Lib.hid (Blk.ext HB0_14.out e15)
  have HB1_15:=Lib.hid (Blk.ext HB1_14.out e15)
  clear e15
  go_wp2_with fail
  refine (imul_as D3 K3 D4 HD4E.out _ (HG.out.ext HX15.out) HD3B.out HK3B.out (by decide) (by decide)).mono ?_;rintro e w16 ⟨rfl,e16⟩
  have HX16:Hid (Ext w w16):=Lib.hid (HX15.out.trans e16)
  have HB0_16:=Lib.hid (Blk.ext HB0_15.out e16)
  have HB1_16:=Lib.hid (Blk.ext HB1_15.out e16)
  clear e16
  go_wp2_with fail
  rw [rounds_succ]
  go_upto_region 11 with fail
  refine wp_name (fun W => Ext w W∧Blk W (w.heap.size) #[.string (qs x0),.string (qs x1),.string (qs x2),.string (qs x3)] 90∧Blk W (w.heap.size + 1) #[.int .i64 0,.int .i64 0,.int .i64 0,.int .i64 0] 22∧Blk W (w16.heap.size) #[.string ⟨#[]⟩,.string ⟨#[]⟩,.string ⟨#[]⟩,.string ⟨#[]⟩] 134) ⟨(HX16.out.alloc _),(HB0_16.out.alloc _),(HB1_16.out.alloc _),(Blk.new' (w:=_) (cs:=#[.string ⟨#[]⟩,.string ⟨#[]⟩,.string ⟨#[]⟩,.string ⟨#[]⟩]) (t:=134) (by first | rfl | (simp only [World.size_alloc];done) | (simp only [World.size_alloc];omega) | simp))⟩ ?_
  rintro w17 ⟨e17,bB0_17,bB1_17,bB2_17⟩
  have HX17:=Lib.hid e17;have HB0_17:=Lib.hid bB0_17;have HB1_17:=Lib.hid bB1_17;have HB2_17:=Lib.hid bB2_17
  have HGEB2:Hid (w.heap.size ≤ w16.heap.size):=Lib.hid (by have:=HX16.out.size;first | omega | (simp only [];omega) | (simp;omega))
  clear e17 bB0_17 bB1_17 bB2_17
  have c0_0:=HB0_17.out.cell 0 rfl
  have c0_1:=HB0_17.out.cell 1 rfl
  have c0_2:=HB0_17.out.cell 2 rfl
  have c0_3:=HB0_17.out.cell 3 rfl
  go_wp2_with fail
  refine wp_loop_rounds 5 ?_
  rw [rounds_succ]
  clear c0_0 c0_1 c0_2 c0_3
  go_wp2_with fail
  refine (rmulz_as x0 D4 N.w HM0.out _ (HG.out.ext HX17.out) Hx0.out HD4B.out).mono ?_;rintro e w18 ⟨rfl,e18⟩
  have HX18:Hid (Ext w w18):=Lib.hid (HX17.out.trans e18)
  have HB1_18:=Lib.hid (Blk.ext HB1_17.out e18)
  have HB2_18:=Lib.hid (Blk.ext HB2_17.out e18)
  clear e18
  go_wp2_with fail
  refine (partsz_c N.w _ HN0B.out (by decide) (by decide)).mono ?_;rintro e w19 ⟨rfl,e19⟩
  have HX19:Hid (Ext w w19):=Lib.hid (HX18.out.trans e19)
  have HB1_19:=Lib.hid (Blk.ext HB1_18.out e19)
  have HB2_19:=Lib.hid (Blk.ext HB2_18.out e19)
  clear e19
  have c2_0:=HB2_19.out.cell 0 rfl
  have f2_0:=HB2_19.out.free 0
  go_upto_region 15 with fail
  refine wp_name (fun W => Ext w W∧Blk W (w.heap.size + 1) #[.int .i64 0,.int .i64 0,.int .i64 0,.int .i64 0] 22∧Blk W (w16.heap.size) #[.string (zs N.w),.string ⟨#[]⟩,.string ⟨#[]⟩,.string ⟨#[]⟩] 134) ⟨(HX19.out.setCell (by have:=HGEB2.out;first | omega | (simp only [];omega) | (simp;omega)) _),(HB1_19.out.other (a:=⟨w16.heap.size,0,none⟩) _ (by have:=HB1_16.out.lt;first | omega | (simp only [];omega) | (simp;omega))),(HB2_19.out.set 0 (.string (zs N.w)))⟩ ?_
  rintro w20 ⟨e20,bB1_20,bB2_20⟩
  have HX20:=Lib.hid e20;have HB1_20:=Lib.hid bB1_20;have HB2_20:=Lib.hid bB2_20
  clear e20 bB1_20 bB2_20 c2_0 f2_0
  have c2_0:=HB2_20.out.cell 0 rfl
  go_wp2_with fail
  refine (gcd0_as N.w J1 HJ1E.out _ (HG.out.ext HX20.out) HN0B.out (by decide)).mono ?_;rintro e w21 ⟨rfl,e21⟩
  have HX21:Hid (Ext w w21):=Lib.hid (HX20.out.trans e21)
  have HB1_21:=Lib.hid (Blk.ext HB1_20.out e21)
  have HB2_21:=Lib.hid (Blk.ext HB2_20.out e21)
  clear e21 c2_0
  have c2_0:=HB2_21.out.cell 0 rfl
  go_wp2_with fail
  refine (sign_as N.w 1 (Int.sign_eq_one_of_pos HW0.out) _).mono ?_;rintro e _ ⟨rfl,rfl⟩
  clear c2_0
  go_wp2_with fail
  rw [rounds_succ]
  go_wp2_with fail
  refine (rmulz_as x1 D4 N.x HM1.out _ (HG.out.ext HX21.out) Hx1.out HD4B.out).mono ?_;rintro e w22 ⟨rfl,e22⟩
  have HX22:Hid (Ext w w22):=Lib.hid (HX21.out.trans e22)
  have HB1_22:=Lib.hid (Blk.ext HB1_21.out e22)
  have HB2_22:=Lib.hid (Blk.ext HB2_21.out e22)
  clear e22
  go_wp2_with fail
  refine (partsz_c N.x _ HN1B.out (by decide) (by decide)).mono ?_;rintro e w23 ⟨rfl,e23⟩
  have HX23:Hid (Ext w w23):=Lib.hid (HX22.out.trans e23)
  have HB1_23:=Lib.hid (Blk.ext HB1_22.out e23)
  have HB2_23:=Lib.hid (Blk.ext HB2_22.out e23)
  clear e23
  have c2_1:=HB2_23.out.cell 1 rfl
  have f2_1:=HB2_23.out.free 1
  go_upto_region 15 with fail
  refine wp_name (fun W => Ext w W∧Blk W (w.heap.size + 1) #[.int .i64 0,.int .i64 0,.int .i64 0,.int .i64 0] 22∧Blk W (w16.heap.size) #[.string (zs N.w),.string (zs N.x),.string ⟨#[]⟩,.string ⟨#[]⟩] 134) ⟨(HX23.out.setCell (by have:=HGEB2.out;first | omega | (simp only [];omega) | (simp;omega)) _),(HB1_23.out.other (a:=⟨w16.heap.size,1,none⟩) _ (by have:=HB1_16.out.lt;first | omega | (simp only [];omega) | (simp;omega))),(HB2_23.out.set 1 (.string (zs N.x)))⟩ ?_
  rintro w24 ⟨e24,bB1_24,bB2_24⟩
  have HX24:=Lib.hid e24;have HB1_24:=Lib.hid bB1_24;have HB2_24:=Lib.hid bB2_24
  clear e24 bB1_24 bB2_24 c2_1 f2_1
  have c2_1:=HB2_24.out.cell 1 rfl
  go_wp2_with fail
  refine (gcd_as J1 N.x J2 HJ2E.out _ (HG.out.ext HX24.out) HJ1B.out HN1B.out (by decide) (by decide)).mono ?_;rintro e w25 ⟨rfl,e25⟩
  have HX25:Hid (Ext w w25):=Lib.hid (HX24.out.trans e25)
  have HB1_25:=Lib.hid (Blk.ext HB1_24.out e25)
  have HB2_25:=Lib.hid (Blk.ext HB2_24.out e25)
  clear e25 c2_1
  go_wp2_with fail
  rw [rounds_succ]
  go_wp2_with fail
  refine (rmulz_as x2 D4 N.y HM2.out _ (HG.out.ext HX25.out) Hx2.out HD4B.out).mono ?_;rintro e w26 ⟨rfl,e26⟩
  have HX26:Hid (Ext w w26):=Lib.hid (HX25.out.trans e26)
  have HB1_26:=Lib.hid (Blk.ext HB1_25.out e26)
  have HB2_26:=Lib.hid (Blk.ext HB2_25.out e26)
  clear e26
  go_wp2_with fail
  refine (partsz_c N.y _ HN2B.out (by decide) (by decide)).mono ?_;rintro e w27 ⟨rfl,e27⟩
  have HX27:Hid (Ext w w27):=Lib.hid (HX26.out.trans e27)
  have HB1_27:=Lib.hid (Blk.ext HB1_26.out e27)
  have HB2_27:=Lib.hid (Blk.ext HB2_26.out e27)
  clear e27
  have c2_2:=HB2_27.out.cell 2 rfl
  have f2_2:=HB2_27.out.free 2
  go_upto_region 15 with fail
  refine wp_name (fun W => Ext w W∧Blk W (w.heap.size + 1) #[.int .i64 0,.int .i64 0,.int .i64 0,.int .i64 0] 22∧Blk W (w16.heap.size) #[.string (zs N.w),.string (zs N.x),.string (zs N.y),.string ⟨#[]⟩] 134) ⟨(HX27.out.setCell (by have:=HGEB2.out;first | omega | (simp only [];omega) | (simp;omega)) _),(HB1_27.out.other (a:=⟨w16.heap.size,2,none⟩) _ (by have:=HB1_16.out.lt;first | omega | (simp only [];omega) | (simp;omega))),(HB2_27.out.set 2 (.string (zs N.y)))⟩ ?_
  rintro w28 ⟨e28,bB1_28,bB2_28⟩
  have HX28:=Lib.hid e28;have HB1_28:=Lib.hid bB1_28;have HB2_28:=Lib.hid bB2_28
  clear e28 bB1_28 bB2_28 c2_2 f2_2
  have c2_2:=HB2_28.out.cell 2 rfl
  go_wp2_with fail
  refine (gcd_as J2 N.y J3 HJ3E.out _ (HG.out.ext HX28.out) HJ2B.out HN2B.out (by decide) (by decide)).mono ?_;rintro e w29 ⟨rfl,e29⟩
  have HX29:Hid (Ext w w29):=Lib.hid (HX28.out.trans e29)
  have HB1_29:=Lib.hid (Blk.ext HB1_28.out e29)
  have HB2_29:=Lib.hid (Blk.ext HB2_28.out e29)
  clear e29 c2_2
  go_wp2_with fail
  rw [rounds_succ]
  go_wp2_with fail
  refine (rmulz_as x3 D4 N.z HM3.out _ (HG.out.ext HX29.out) Hx3.out HD4B.out).mono ?_;rintro e w30 ⟨rfl,e30⟩
  have HX30:Hid (Ext w w30):=Lib.hid (HX29.out.trans e30)
  have HB1_30:=Lib.hid (Blk.ext HB1_29.out e30)
  have HB2_30:=Lib.hid (Blk.ext HB2_29.out e30)
  clear e30
  go_wp2_with fail
  refine (partsz_c N.z _ HN3B.out (by decide) (by decide)).mono ?_;rintro e w31 ⟨rfl,e31⟩
  have HX31:Hid (Ext w w31):=Lib.hid (HX30.out.trans e31)
  have HB1_31:=Lib.hid (Blk.ext HB1_30.out e31)
  have HB2_31:=Lib.hid (Blk.ext HB2_30.out e31)
  clear e31
  have c2_3:=HB2_31.out.cell 3 rfl
  have f2_3:=HB2_31.out.free 3
  go_upto_region 15 with fail
  refine wp_name (fun W => Ext w W∧Blk W (w.heap.size + 1) #[.int .i64 0,.int .i64 0,.int .i64 0,.int .i64 0] 22∧Blk W (w16.heap.size) #[.string (zs N.w),.string (zs N.x),.string (zs N.y),.string (zs N.z)] 134) ⟨(HX31.out.setCell (by have:=HGEB2.out;first | omega | (simp only [];omega) | (simp;omega)) _),(HB1_31.out.other (a:=⟨w16.heap.size,3,none⟩) _ (by have:=HB1_16.out.lt;first | omega | (simp only [];omega) | (simp;omega))),(HB2_31.out.set 3 (.string (zs N.z)))⟩ ?_
  rintro w32 ⟨e32,bB1_32,bB2_32⟩
  have HX32:=Lib.hid e32;have HB1_32:=Lib.hid bB1_32;have HB2_32:=Lib.hid bB2_32
  clear e32 bB1_32 bB2_32 c2_3 f2_3
  have c2_3:=HB2_32.out.cell 3 rfl
  go_wp2_with fail
  refine (gcd_as J3 N.z J4 HJ4E.out _ (HG.out.ext HX32.out) HJ3B.out HN3B.out (by decide) (by decide)).mono ?_;rintro e w33 ⟨rfl,e33⟩
  have HX33:Hid (Ext w w33):=Lib.hid (HX32.out.trans e33)
  have HB1_33:=Lib.hid (Blk.ext HB1_32.out e33)
  have HB2_33:=Lib.hid (Blk.ext HB2_32.out e33)
  clear e33 c2_3
  go_wp2_with fail
  rw [rounds_succ]
  go_upto_region 22 with fail
  refine wp_name (fun W => Ext w W∧Blk W (w.heap.size + 1) #[.int .i64 0,.int .i64 0,.int .i64 0,.int .i64 0] 22∧Blk W (w16.heap.size) #[.string (zs N.w),.string (zs N.x),.string (zs N.y),.string (zs N.z)] 134∧Blk W (w33.heap.size) #[.int .i64 0,.int .i64 0,.int .i64 0,.int .i64 0] 22) ⟨(HX33.out.alloc _),(HB1_33.out.alloc _),(HB2_33.out.alloc _),(Blk.new' (w:=_) (cs:=#[.int .i64 0,.int .i64 0,.int .i64 0,.int .i64 0]) (t:=22) (by first | rfl | (simp only [World.size_alloc];done) | (simp only [World.size_alloc];omega) | simp))⟩ ?_
  rintro w34 ⟨e34,bB1_34,bB2_34,bB3_34⟩
  have HX34:=Lib.hid e34;have HB1_34:=Lib.hid bB1_34;have HB2_34:=Lib.hid bB2_34;have HB3_34:=Lib.hid bB3_34
  have HGEB3:Hid (w.heap.size ≤ w33.heap.size):=Lib.hid (by have:=HX33.out.size;first | omega | (simp only [];omega) | (simp;omega))
  clear e34 bB1_34 bB2_34 bB3_34
  have c2_0:=HB2_34.out.cell 0 rfl
  have c2_1:=HB2_34.out.cell 1 rfl
  have c2_2:=HB2_34.out.cell 2 rfl
  have c2_3:=HB2_34.out.cell 3 rfl
  go_wp2_with fail
  refine wp_loop_rounds 5 ?_
  rw [rounds_succ]
  clear c2_0 c2_1 c2_2 c2_3
  rcases small4 p.w with hb0 | hb0 | hb0 | hb0
  · have pg0_:decide ((1000000:Int) < p.w) = false:=decide_eq_false (by omega)
    have pl0_:decide (p.w < -1000000) = false:=decide_eq_false (by omega)
    have HB0:=Lib.hid hb0;clear hb0
    go_wp2_with fail
    refine (div_as N.w J4 p.w HPD.out.1 _ (HG.out.ext HX34.out) HN0B.out HJ4B.out (by decide) (by decide) HJN.out).mono ?_;rintro e w35 ⟨rfl,e35⟩
    have HX35:Hid (Ext w w35):=Lib.hid (HX34.out.trans e35)
    have HB1_35:=Lib.hid (Blk.ext HB1_34.out e35)
    have HB3_35:=Lib.hid (Blk.ext HB3_34.out e35)
    clear e35
    go_wp2_with fail
    refine (ismall_in p.w _ (HG.out.ext HX35.out) (by have:=HB0.out;omega) (by have:=HB0.out;omega)).mono ?_;rintro e w36 ⟨rfl,e36⟩
    have HX36:Hid (Ext w w36):=Lib.hid (HX35.out.trans e36)
    have HB1_36:=Lib.hid (Blk.ext HB1_35.out e36)
    have HB3_36:=Lib.hid (Blk.ext HB3_35.out e36)
    clear e36
    have c3_0:=HB3_36.out.cell 0 rfl
    have f3_0:=HB3_36.out.free 0
    go_wp2_with fail
    rw [rounds_succ]
    clear c3_0 f3_0
    rcases small4 p.x with hb1 | hb1 | hb1 | hb1
    · have pg1_:decide ((1000000:Int) < p.x) = false:=decide_eq_false (by omega)
      have pl1_:decide (p.x < -1000000) = false:=decide_eq_false (by omega)
      have HB1:=Lib.hid hb1;clear hb1
      go_wp2_with fail
      refine (div_as N.x J4 p.x HPD.out.2.1 _ (HG.out.ext (HX36.out.setCell (by have:=HGEB3.out;first | omega | (simp only [];omega) | (simp;omega)) _)) HN1B.out HJ4B.out (by decide) (by decide) HJN.out).mono ?_;rintro e w37 ⟨rfl,e37⟩
      have HX37:Hid (Ext w w37):=Lib.hid ((HX36.out.setCell (by have:=HGEB3.out;first | omega | (simp only [];omega) | (simp;omega)) _).trans e37)
      have HB1_37:Hid (Blk w37 (w.heap.size + 1) #[.int .i64 0,.int .i64 0,.int .i64 0,.int .i64 0] 22):=Lib.hid (Blk.ext (HB1_36.out.other (a:=⟨w33.heap.size,0,none⟩) _ (by have:=HB1_33.out.lt;first | omega | (simp only [];omega) | (simp;omega))) e37)
      have HB3_37:Hid (Blk w37 (w33.heap.size) #[.int .i64 p.w,.int .i64 0,.int .i64 0,.int .i64 0] 22):=Lib.hid (Blk.ext (HB3_36.out.set 0 (.int .i64 p.w)) e37)
      clear e37
      go_wp2_with fail
      refine (ismall_in p.x _ (HG.out.ext HX37.out) (by have:=HB1.out;omega) (by have:=HB1.out;omega)).mono ?_;rintro e w38 ⟨rfl,e38⟩
      have HX38:Hid (Ext w w38):=Lib.hid (HX37.out.trans e38)
      have HB1_38:=Lib.hid (Blk.ext HB1_37.out e38)
      have HB3_38:=Lib.hid (Blk.ext HB3_37.out e38)
      clear e38
      have c3_1:=HB3_38.out.cell 1 rfl
      have f3_1:=HB3_38.out.free 1
      go_wp2_with fail
      rw [rounds_succ]
      clear c3_1 f3_1
      rcases small4 p.y with hb2 | hb2 | hb2 | hb2
      · have pg2_:decide ((1000000:Int) < p.y) = false:=decide_eq_false (by omega)
        have pl2_:decide (p.y < -1000000) = false:=decide_eq_false (by omega)
        have HB2:=Lib.hid hb2;clear hb2
        go_wp2_with fail
        refine (div_as N.y J4 p.y HPD.out.2.2.1 _ (HG.out.ext (HX38.out.setCell (by have:=HGEB3.out;first | omega | (simp only [];omega) | (simp;omega)) _)) HN2B.out HJ4B.out (by decide) (by decide) HJN.out).mono ?_;rintro e w39 ⟨rfl,e39⟩
        have HX39:Hid (Ext w w39):=Lib.hid ((HX38.out.setCell (by have:=HGEB3.out;first | omega | (simp only [];omega) | (simp;omega)) _).trans e39)
        have HB1_39:Hid (Blk w39 (w.heap.size + 1) #[.int .i64 0,.int .i64 0,.int .i64 0,.int .i64 0] 22):=Lib.hid (Blk.ext (HB1_38.out.other (a:=⟨w33.heap.size,1,none⟩) _ (by have:=HB1_33.out.lt;first | omega | (simp only [];omega) | (simp;omega))) e39)
        have HB3_39:Hid (Blk w39 (w33.heap.size) #[.int .i64 p.w,.int .i64 p.x,.int .i64 0,.int .i64 0] 22):=Lib.hid (Blk.ext (HB3_38.out.set 1 (.int .i64 p.x)) e39)
        clear e39
        go_wp2_with fail
        refine (ismall_in p.y _ (HG.out.ext HX39.out) (by have:=HB2.out;omega) (by have:=HB2.out;omega)).mono ?_;rintro e w40 ⟨rfl,e40⟩
        have HX40:Hid (Ext w w40):=Lib.hid (HX39.out.trans e40)
        have HB1_40:=Lib.hid (Blk.ext HB1_39.out e40)
        have HB3_40:=Lib.hid (Blk.ext HB3_39.out e40)
        clear e40
        have c3_2:=HB3_40.out.cell 2 rfl
        have f3_2:=HB3_40.out.free 2
        go_wp2_with fail
        rw [rounds_succ]
        clear c3_2 f3_2
        rcases small4 p.z with hb3 | hb3 | hb3 | hb3
        · have pg3_:decide ((1000000:Int) < p.z) = false:=decide_eq_false (by omega)
          have pl3_:decide (p.z < -1000000) = false:=decide_eq_false (by omega)
          have HB3:=Lib.hid hb3;clear hb3
          go_wp2_with fail
          refine (div_as N.z J4 p.z HPD.out.2.2.2 _ (HG.out.ext (HX40.out.setCell (by have:=HGEB3.out;first | omega | (simp only [];omega) | (simp;omega)) _)) HN3B.out HJ4B.out (by decide) (by decide) HJN.out).mono ?_;rintro e w41 ⟨rfl,e41⟩
          have HX41:Hid (Ext w w41):=Lib.hid ((HX40.out.setCell (by have:=HGEB3.out;first | omega | (simp only [];omega) | (simp;omega)) _).trans e41)
          have HB1_41:Hid (Blk w41 (w.heap.size + 1) #[.int .i64 0,.int .i64 0,.int .i64 0,.int .i64 0] 22):=Lib.hid (Blk.ext (HB1_40.out.other (a:=⟨w33.heap.size,2,none⟩) _ (by have:=HB1_33.out.lt;first | omega | (simp only [];omega) | (simp;omega))) e41)
          have HB3_41:Hid (Blk w41 (w33.heap.size) #[.int .i64 p.w,.int .i64 p.x,.int .i64 p.y,.int .i64 0] 22):=Lib.hid (Blk.ext (HB3_40.out.set 2 (.int .i64 p.y)) e41)
          clear e41
          go_wp2_with fail
          refine (ismall_in p.z _ (HG.out.ext HX41.out) (by have:=HB3.out;omega) (by have:=HB3.out;omega)).mono ?_;rintro e w42 ⟨rfl,e42⟩
          have HX42:Hid (Ext w w42):=Lib.hid (HX41.out.trans e42)
          have HB1_42:=Lib.hid (Blk.ext HB1_41.out e42)
          have HB3_42:=Lib.hid (Blk.ext HB3_41.out e42)
          clear e42
          have c3_3:=HB3_42.out.cell 3 rfl
          have f3_3:=HB3_42.out.free 3
          go_wp2_with fail
          rw [rounds_succ]
          clear c3_3 f3_3
          go_upto_region 33 with fail
          refine wp_name (fun W => Ext w W∧Blk W (w.heap.size + 1) #[.int .i64 0,.int .i64 0,.int .i64 0,.int .i64 0] 22∧Blk W (w33.heap.size) #[.int .i64 p.w,.int .i64 p.x,.int .i64 p.y,.int .i64 p.z] 22) ⟨(HX42.out.setCell (by have:=HGEB3.out;first | omega | (simp only [];omega) | (simp;omega)) _),(HB1_42.out.other (a:=⟨w33.heap.size,3,none⟩) _ (by have:=HB1_33.out.lt;first | omega | (simp only [];omega) | (simp;omega))),(HB3_42.out.set 3 (.int .i64 p.z))⟩ ?_
          rintro w43 ⟨e43,bB1_43,bB3_43⟩
          have HX43:=Lib.hid e43;have HB1_43:=Lib.hid bB1_43;have HB3_43:=Lib.hid bB3_43
          clear e43 bB1_43 bB3_43
          have c3_0:=HB3_43.out.cell 0 rfl
          have c3_1:=HB3_43.out.cell 1 rfl
          have c3_2:=HB3_43.out.cell 2 rfl
          have c3_3:=HB3_43.out.cell 3 rfl
          have c1_0:=HB1_43.out.cell 0 rfl
          have f1_0:=HB1_43.out.free 0
          have c1_1:=HB1_43.out.cell 1 rfl
          have f1_1:=HB1_43.out.free 1
          have c1_2:=HB1_43.out.cell 2 rfl
          have f1_2:=HB1_43.out.free 2
          have c1_3:=HB1_43.out.cell 3 rfl
          have f1_3:=HB1_43.out.free 3
          exact absurd ⟨HB0.out,HB1.out,HB2.out,HB3.out⟩ HI.out
        · have pg3_:decide ((1000000:Int) < p.z) = true:=decide_eq_true (by omega)
          have HB3:=Lib.hid hb3;clear hb3
          go_wp2_with fail
          refine (div_as N.z J4 p.z HPD.out.2.2.2 _ (HG.out.ext (HX40.out.setCell (by have:=HGEB3.out;first | omega | (simp only [];omega) | (simp;omega)) _)) HN3B.out HJ4B.out (by decide) (by decide) HJN.out).mono ?_;rintro e w41 ⟨rfl,e41⟩
          have HX41:Hid (Ext w w41):=Lib.hid ((HX40.out.setCell (by have:=HGEB3.out;first | omega | (simp only [];omega) | (simp;omega)) _).trans e41)
          have HB1_41:Hid (Blk w41 (w.heap.size + 1) #[.int .i64 0,.int .i64 0,.int .i64 0,.int .i64 0] 22):=Lib.hid (Blk.ext (HB1_40.out.other (a:=⟨w33.heap.size,2,none⟩) _ (by have:=HB1_33.out.lt;first | omega | (simp only [];omega) | (simp;omega))) e41)
          have HB3_41:Hid (Blk w41 (w33.heap.size) #[.int .i64 p.w,.int .i64 p.x,.int .i64 p.y,.int .i64 0] 22):=Lib.hid (Blk.ext (HB3_40.out.set 2 (.int .i64 p.y)) e41)
          clear e41
          go_wp2_with fail
          refine (ismall_in p.z _ (HG.out.ext HX41.out) (by have:=HB3.out;omega) (by have:=HB3.out;omega)).mono ?_;rintro e w42 ⟨rfl,e42⟩
          have HX42:Hid (Ext w w42):=Lib.hid (HX41.out.trans e42)
          have HB1_42:=Lib.hid (Blk.ext HB1_41.out e42)
          have HB3_42:=Lib.hid (Blk.ext HB3_41.out e42)
          clear e42
          have c1_0:=HB1_42.out.cell 0 rfl
          have f1_0:=HB1_42.out.free 0
          have c1_1:=HB1_42.out.cell 1 rfl
          have f1_1:=HB1_42.out.free 1
          have c1_2:=HB1_42.out.cell 2 rfl
          have f1_2:=HB1_42.out.free 2
          have c1_3:=HB1_42.out.cell 3 rfl
          have f1_3:=HB1_42.out.free 3
          go_upto_region 30 with fail
          repeat (first | go_step | go_guarded | go_skip | go_upon)
          refine wp_name (fun W => Ext w W∧Blk W (w.heap.size + 1) #[.int .i64 0,.int .i64 0,.int .i64 0,.int .i64 0] 22∧Blk W (w33.heap.size) #[.int .i64 p.w,.int .i64 p.x,.int .i64 p.y,.int .i64 0] 22) ⟨((((HX42.out.setCell (by have:=HGEB1.out;first | omega | (simp only [];omega) | (simp;omega)) _).setCell (by have:=HGEB1.out;first | omega | (simp only [];omega) | (simp;omega)) _).setCell (by have:=HGEB1.out;first | omega | (simp only [];omega) | (simp;omega)) _).setCell (by have:=HGEB1.out;first | omega | (simp only [];omega) | (simp;omega)) _),((((HB1_42.out.set 0 (.int .i64 0)).set 1 (.int .i64 0)).set 2 (.int .i64 0)).set 3 (.int .i64 0)),((((HB3_42.out.other (a:=⟨w.heap.size + 1,0,none⟩) _ (by have:=HB1_33.out.lt;first | omega | (simp only [];omega) | (simp;omega))).other (a:=⟨w.heap.size + 1,1,none⟩) _ (by have:=HB1_33.out.lt;first | omega | (simp only [];omega) | (simp;omega))).other (a:=⟨w.heap.size + 1,2,none⟩) _ (by have:=HB1_33.out.lt;first | omega | (simp only [];omega) | (simp;omega))).other (a:=⟨w.heap.size + 1,3,none⟩) _ (by have:=HB1_33.out.lt;first | omega | (simp only [];omega) | (simp;omega)))⟩ ?_
          rintro w43 ⟨e43,bB1_43,bB3_43⟩
          have HX43:=Lib.hid e43;have HB1_43:=Lib.hid bB1_43;have HB3_43:=Lib.hid bB3_43
          clear e43 bB1_43 bB3_43 c1_0 f1_0 c1_1 f1_1 c1_2 f1_2 c1_3 f1_3
          have gB1_0:=HB1_43.out.cell 0 rfl
          have gB1_1:=HB1_43.out.cell 1 rfl
          have gB1_2:=HB1_43.out.cell 2 rfl
          have gB1_3:=HB1_43.out.cell 3 rfl
          refine bodyPost_ret (v:=.tuple #[.agg #[.int .i64 0,.int .i64 0,.int .i64 0,.int .i64 0],.int .i64 4]) (by simp [results,Tryz.results45,go_sem,gB1_0,gB1_1,gB1_2,gB1_3]) rfl ⟨rfl,HX43.out⟩
        · have pg3_:decide ((1000000:Int) < p.z) = false:=decide_eq_false (by omega)
          have pl3_:decide (p.z < -1000000) = true:=decide_eq_true (by omega)
          have HB3:=Lib.hid hb3;clear hb3
          go_wp2_with fail
          refine (div_as N.z J4 p.z HPD.out.2.2.2 _ (HG.out.ext (HX40.out.setCell (by have:=HGEB3.out;first | omega | (simp only [];omega) | (simp;omega)) _)) HN3B.out HJ4B.out (by decide) (by decide) HJN.out).mono ?_;rintro e w41 ⟨rfl,e41⟩
          have HX41:Hid (Ext w w41):=Lib.hid ((HX40.out.setCell (by have:=HGEB3.out;first | omega | (simp only [];omega) | (simp;omega)) _).trans e41)
          have HB1_41:Hid (Blk w41 (w.heap.size + 1) #[.int .i64 0,.int .i64 0,.int .i64 0,.int .i64 0] 22):=Lib.hid (Blk.ext (HB1_40.out.other (a:=⟨w33.heap.size,2,none⟩) _ (by have:=HB1_33.out.lt;first | omega | (simp only [];omega) | (simp;omega))) e41)
          have HB3_41:Hid (Blk w41 (w33.heap.size) #[.int .i64 p.w,.int .i64 p.x,.int .i64 p.y,.int .i64 0] 22):=Lib.hid (Blk.ext (HB3_40.out.set 2 (.int .i64 p.y)) e41)
          clear e41
          go_wp2_with fail
          refine (ismall_in p.z _ (HG.out.ext HX41.out) (by have:=HB3.out;omega) (by have:=HB3.out;omega)).mono ?_;rintro e w42 ⟨rfl,e42⟩
          have HX42:Hid (Ext w w42):=Lib.hid (HX41.out.trans e42)
          have HB1_42:=Lib.hid (Blk.ext HB1_41.out e42)
          have HB3_42:=Lib.hid (Blk.ext HB3_41.out e42)
          clear e42
          have c1_0:=HB1_42.out.cell 0 rfl
          have f1_0:=HB1_42.out.free 0
          have c1_1:=HB1_42.out.cell 1 rfl
          have f1_1:=HB1_42.out.free 1
          have c1_2:=HB1_42.out.cell 2 rfl
          have f1_2:=HB1_42.out.free 2
          have c1_3:=HB1_42.out.cell 3 rfl
          have f1_3:=HB1_42.out.free 3
          go_upto_region 30 with fail
          repeat (first | go_step | go_guarded | go_skip | go_upon)
          refine wp_name (fun W => Ext w W∧Blk W (w.heap.size + 1) #[.int .i64 0,.int .i64 0,.int .i64 0,.int .i64 0] 22∧Blk W (w33.heap.size) #[.int .i64 p.w,.int .i64 p.x,.int .i64 p.y,.int .i64 0] 22) ⟨((((HX42.out.setCell (by have:=HGEB1.out;first | omega | (simp only [];omega) | (simp;omega)) _).setCell (by have:=HGEB1.out;first | omega | (simp only [];omega) | (simp;omega)) _).setCell (by have:=HGEB1.out;first | omega | (simp only [];omega) | (simp;omega)) _).setCell (by have:=HGEB1.out;first | omega | (simp only [];omega) | (simp;omega)) _),((((HB1_42.out.set 0 (.int .i64 0)).set 1 (.int .i64 0)).set 2 (.int .i64 0)).set 3 (.int .i64 0)),((((HB3_42.out.other (a:=⟨w.heap.size + 1,0,none⟩) _ (by have:=HB1_33.out.lt;first | omega | (simp only [];omega) | (simp;omega))).other (a:=⟨w.heap.size + 1,1,none⟩) _ (by have:=HB1_33.out.lt;first | omega | (simp only [];omega) | (simp;omega))).other (a:=⟨w.heap.size + 1,2,none⟩) _ (by have:=HB1_33.out.lt;first | omega | (simp only [];omega) | (simp;omega))).other (a:=⟨w.heap.size + 1,3,none⟩) _ (by have:=HB1_33.out.lt;first | omega | (simp only [];omega) | (simp;omega)))⟩ ?_
          rintro w43 ⟨e43,bB1_43,bB3_43⟩
          have HX43:=Lib.hid e43;have HB1_43:=Lib.hid bB1_43;have HB3_43:=Lib.hid bB3_43
          clear e43 bB1_43 bB3_43 c1_0 f1_0 c1_1 f1_1 c1_2 f1_2 c1_3 f1_3
          have gB1_0:=HB1_43.out.cell 0 rfl
          have gB1_1:=HB1_43.out.cell 1 rfl
          have gB1_2:=HB1_43.out.cell 2 rfl
          have gB1_3:=HB1_43.out.cell 3 rfl
          refine bodyPost_ret (v:=.tuple #[.agg #[.int .i64 0,.int .i64 0,.int .i64 0,.int .i64 0],.int .i64 4]) (by simp [results,Tryz.results45,go_sem,gB1_0,gB1_1,gB1_2,gB1_3]) rfl ⟨rfl,HX43.out⟩
        · have HB3:=Lib.hid hb3;clear hb3
          go_wp2_with fail
          refine (div_as N.z J4 p.z HPD.out.2.2.2 _ (HG.out.ext (HX40.out.setCell (by have:=HGEB3.out;first | omega | (simp only [];omega) | (simp;omega)) _)) HN3B.out HJ4B.out (by decide) (by decide) HJN.out).mono ?_;rintro e w41 ⟨rfl,e41⟩
          have HX41:Hid (Ext w w41):=Lib.hid ((HX40.out.setCell (by have:=HGEB3.out;first | omega | (simp only [];omega) | (simp;omega)) _).trans e41)
          have HB1_41:Hid (Blk w41 (w.heap.size + 1) #[.int .i64 0,.int .i64 0,.int .i64 0,.int .i64 0] 22):=Lib.hid (Blk.ext (HB1_40.out.other (a:=⟨w33.heap.size,2,none⟩) _ (by have:=HB1_33.out.lt;first | omega | (simp only [];omega) | (simp;omega))) e41)
          have HB3_41:Hid (Blk w41 (w33.heap.size) #[.int .i64 p.w,.int .i64 p.x,.int .i64 p.y,.int .i64 0] 22):=Lib.hid (Blk.ext (HB3_40.out.set 2 (.int .i64 p.y)) e41)
          clear e41
          go_wp2_with fail
          refine (ismall_far p.z _ (HG.out.ext HX41.out) HPB.out.2.2.2 (by decide) HB3.out).mono ?_;rintro e w42 ⟨rfl,e42⟩
          have HX42:Hid (Ext w w42):=Lib.hid (HX41.out.trans e42)
          have HB1_42:=Lib.hid (Blk.ext HB1_41.out e42)
          have HB3_42:=Lib.hid (Blk.ext HB3_41.out e42)
          clear e42
          have c1_0:=HB1_42.out.cell 0 rfl
          have f1_0:=HB1_42.out.free 0
          have c1_1:=HB1_42.out.cell 1 rfl
          have f1_1:=HB1_42.out.free 1
          have c1_2:=HB1_42.out.cell 2 rfl
          have f1_2:=HB1_42.out.free 2
          have c1_3:=HB1_42.out.cell 3 rfl
          have f1_3:=HB1_42.out.free 3
          go_upto_region 30 with fail
          repeat (first | go_step | go_guarded | go_skip | go_upon)
          refine wp_name (fun W => Ext w W∧Blk W (w.heap.size + 1) #[.int .i64 0,.int .i64 0,.int .i64 0,.int .i64 0] 22∧Blk W (w33.heap.size) #[.int .i64 p.w,.int .i64 p.x,.int .i64 p.y,.int .i64 0] 22) ⟨((((HX42.out.setCell (by have:=HGEB1.out;first | omega | (simp only [];omega) | (simp;omega)) _).setCell (by have:=HGEB1.out;first | omega | (simp only [];omega) | (simp;omega)) _).setCell (by have:=HGEB1.out;first | omega | (simp only [];omega) | (simp;omega)) _).setCell (by have:=HGEB1.out;first | omega | (simp only [];omega) | (simp;omega)) _),((((HB1_42.out.set 0 (.int .i64 0)).set 1 (.int .i64 0)).set 2 (.int .i64 0)).set 3 (.int .i64 0)),((((HB3_42.out.other (a:=⟨w.heap.size + 1,0,none⟩) _ (by have:=HB1_33.out.lt;first | omega | (simp only [];omega) | (simp;omega))).other (a:=⟨w.heap.size + 1,1,none⟩) _ (by have:=HB1_33.out.lt;first | omega | (simp only [];omega) | (simp;omega))).other (a:=⟨w.heap.size + 1,2,none⟩) _ (by have:=HB1_33.out.lt;first | omega | (simp only [];omega) | (simp;omega))).other (a:=⟨w.heap.size + 1,3,none⟩) _ (by have:=HB1_33.out.lt;first | omega | (simp only [];omega) | (simp;omega)))⟩ ?_
          rintro w43 ⟨e43,bB1_43,bB3_43⟩
          have HX43:=Lib.hid e43;have HB1_43:=Lib.hid bB1_43;have HB3_43:=Lib.hid bB3_43
          clear e43 bB1_43 bB3_43 c1_0 f1_0 c1_1 f1_1 c1_2 f1_2 c1_3 f1_3
          have gB1_0:=HB1_43.out.cell 0 rfl
          have gB1_1:=HB1_43.out.cell 1 rfl
          have gB1_2:=HB1_43.out.cell 2 rfl
          have gB1_3:=HB1_43.out.cell 3 rfl
          refine bodyPost_ret (v:=.tuple #[.agg #[.int .i64 0,.int .i64 0,.int .i64 0,.int .i64 0],.int .i64 4]) (by simp [results,Tryz.results45,go_sem,gB1_0,gB1_1,gB1_2,gB1_3]) rfl ⟨rfl,HX43.out⟩
      · have pg2_:decide ((1000000:Int) < p.y) = true:=decide_eq_true (by omega)
        have HB2:=Lib.hid hb2;clear hb2
        go_wp2_with fail
        refine (div_as N.y J4 p.y HPD.out.2.2.1 _ (HG.out.ext (HX38.out.setCell (by have:=HGEB3.out;first | omega | (simp only [];omega) | (simp;omega)) _)) HN2B.out HJ4B.out (by decide) (by decide) HJN.out).mono ?_;rintro e w39 ⟨rfl,e39⟩
        have HX39:Hid (Ext w w39):=Lib.hid ((HX38.out.setCell (by have:=HGEB3.out;first | omega | (simp only [];omega) | (simp;omega)) _).trans e39)
        have HB1_39:Hid (Blk w39 (w.heap.size + 1) #[.int .i64 0,.int .i64 0,.int .i64 0,.int .i64 0] 22):=Lib.hid (Blk.ext (HB1_38.out.other (a:=⟨w33.heap.size,1,none⟩) _ (by have:=HB1_33.out.lt;first | omega | (simp only [];omega) | (simp;omega))) e39)
        have HB3_39:Hid (Blk w39 (w33.heap.size) #[.int .i64 p.w,.int .i64 p.x,.int .i64 0,.int .i64 0] 22):=Lib.hid (Blk.ext (HB3_38.out.set 1 (.int .i64 p.x)) e39)
        clear e39
        go_wp2_with fail
        refine (ismall_in p.y _ (HG.out.ext HX39.out) (by have:=HB2.out;omega) (by have:=HB2.out;omega)).mono ?_;rintro e w40 ⟨rfl,e40⟩
        have HX40:Hid (Ext w w40):=Lib.hid (HX39.out.trans e40)
        have HB1_40:=Lib.hid (Blk.ext HB1_39.out e40)
        have HB3_40:=Lib.hid (Blk.ext HB3_39.out e40)
        clear e40
        have c1_0:=HB1_40.out.cell 0 rfl
        have f1_0:=HB1_40.out.free 0
        have c1_1:=HB1_40.out.cell 1 rfl
        have f1_1:=HB1_40.out.free 1
        have c1_2:=HB1_40.out.cell 2 rfl
        have f1_2:=HB1_40.out.free 2
        have c1_3:=HB1_40.out.cell 3 rfl
        have f1_3:=HB1_40.out.free 3
        go_upto_region 30 with fail
        repeat (first | go_step | go_guarded | go_skip | go_upon)
        refine wp_name (fun W => Ext w W∧Blk W (w.heap.size + 1) #[.int .i64 0,.int .i64 0,.int .i64 0,.int .i64 0] 22∧Blk W (w33.heap.size) #[.int .i64 p.w,.int .i64 p.x,.int .i64 0,.int .i64 0] 22) ⟨((((HX40.out.setCell (by have:=HGEB1.out;first | omega | (simp only [];omega) | (simp;omega)) _).setCell (by have:=HGEB1.out;first | omega | (simp only [];omega) | (simp;omega)) _).setCell (by have:=HGEB1.out;first | omega | (simp only [];omega) | (simp;omega)) _).setCell (by have:=HGEB1.out;first | omega | (simp only [];omega) | (simp;omega)) _),((((HB1_40.out.set 0 (.int .i64 0)).set 1 (.int .i64 0)).set 2 (.int .i64 0)).set 3 (.int .i64 0)),((((HB3_40.out.other (a:=⟨w.heap.size + 1,0,none⟩) _ (by have:=HB1_33.out.lt;first | omega | (simp only [];omega) | (simp;omega))).other (a:=⟨w.heap.size + 1,1,none⟩) _ (by have:=HB1_33.out.lt;first | omega | (simp only [];omega) | (simp;omega))).other (a:=⟨w.heap.size + 1,2,none⟩) _ (by have:=HB1_33.out.lt;first | omega | (simp only [];omega) | (simp;omega))).other (a:=⟨w.heap.size + 1,3,none⟩) _ (by have:=HB1_33.out.lt;first | omega | (simp only [];omega) | (simp;omega)))⟩ ?_
        rintro w41 ⟨e41,bB1_41,bB3_41⟩
        have HX41:=Lib.hid e41;have HB1_41:=Lib.hid bB1_41;have HB3_41:=Lib.hid bB3_41
        clear e41 bB1_41 bB3_41 c1_0 f1_0 c1_1 f1_1 c1_2 f1_2 c1_3 f1_3
        have gB1_0:=HB1_41.out.cell 0 rfl
        have gB1_1:=HB1_41.out.cell 1 rfl
        have gB1_2:=HB1_41.out.cell 2 rfl
        have gB1_3:=HB1_41.out.cell 3 rfl
        refine bodyPost_ret (v:=.tuple #[.agg #[.int .i64 0,.int .i64 0,.int .i64 0,.int .i64 0],.int .i64 4]) (by simp [results,Tryz.results45,go_sem,gB1_0,gB1_1,gB1_2,gB1_3]) rfl ⟨rfl,HX41.out⟩
      · have pg2_:decide ((1000000:Int) < p.y) = false:=decide_eq_false (by omega)
        have pl2_:decide (p.y < -1000000) = true:=decide_eq_true (by omega)
        have HB2:=Lib.hid hb2;clear hb2
        go_wp2_with fail
        refine (div_as N.y J4 p.y HPD.out.2.2.1 _ (HG.out.ext (HX38.out.setCell (by have:=HGEB3.out;first | omega | (simp only [];omega) | (simp;omega)) _)) HN2B.out HJ4B.out (by decide) (by decide) HJN.out).mono ?_;rintro e w39 ⟨rfl,e39⟩
        have HX39:Hid (Ext w w39):=Lib.hid ((HX38.out.setCell (by have:=HGEB3.out;first | omega | (simp only [];omega) | (simp;omega)) _).trans e39)
        have HB1_39:Hid (Blk w39 (w.heap.size + 1) #[.int .i64 0,.int .i64 0,.int .i64 0,.int .i64 0] 22):=Lib.hid (Blk.ext (HB1_38.out.other (a:=⟨w33.heap.size,1,none⟩) _ (by have:=HB1_33.out.lt;first | omega | (simp only [];omega) | (simp;omega))) e39)
        have HB3_39:Hid (Blk w39 (w33.heap.size) #[.int .i64 p.w,.int .i64 p.x,.int .i64 0,.int .i64 0] 22):=Lib.hid (Blk.ext (HB3_38.out.set 1 (.int .i64 p.x)) e39)
        clear e39
        go_wp2_with fail
        refine (ismall_in p.y _ (HG.out.ext HX39.out) (by have:=HB2.out;omega) (by have:=HB2.out;omega)).mono ?_;rintro e w40 ⟨rfl,e40⟩
        have HX40:Hid (Ext w w40):=Lib.hid (HX39.out.trans e40)
        have HB1_40:=Lib.hid (Blk.ext HB1_39.out e40)
        have HB3_40:=Lib.hid (Blk.ext HB3_39.out e40)
        clear e40
        have c1_0:=HB1_40.out.cell 0 rfl
        have f1_0:=HB1_40.out.free 0
        have c1_1:=HB1_40.out.cell 1 rfl
        have f1_1:=HB1_40.out.free 1
        have c1_2:=HB1_40.out.cell 2 rfl
        have f1_2:=HB1_40.out.free 2
        have c1_3:=HB1_40.out.cell 3 rfl
        have f1_3:=HB1_40.out.free 3
        go_upto_region 30 with fail
        repeat (first | go_step | go_guarded | go_skip | go_upon)
        refine wp_name (fun W => Ext w W∧Blk W (w.heap.size + 1) #[.int .i64 0,.int .i64 0,.int .i64 0,.int .i64 0] 22∧Blk W (w33.heap.size) #[.int .i64 p.w,.int .i64 p.x,.int .i64 0,.int .i64 0] 22) ⟨((((HX40.out.setCell (by have:=HGEB1.out;first | omega | (simp only [];omega) | (simp;omega)) _).setCell (by have:=HGEB1.out;first | omega | (simp only [];omega) | (simp;omega)) _).setCell (by have:=HGEB1.out;first | omega | (simp only [];omega) | (simp;omega)) _).setCell (by have:=HGEB1.out;first | omega | (simp only [];omega) | (simp;omega)) _),((((HB1_40.out.set 0 (.int .i64 0)).set 1 (.int .i64 0)).set 2 (.int .i64 0)).set 3 (.int .i64 0)),((((HB3_40.out.other (a:=⟨w.heap.size + 1,0,none⟩) _ (by have:=HB1_33.out.lt;first | omega | (simp only [];omega) | (simp;omega))).other (a:=⟨w.heap.size + 1,1,none⟩) _ (by have:=HB1_33.out.lt;first | omega | (simp only [];omega) | (simp;omega))).other (a:=⟨w.heap.size + 1,2,none⟩) _ (by have:=HB1_33.out.lt;first | omega | (simp only [];omega) | (simp;omega))).other (a:=⟨w.heap.size + 1,3,none⟩) _ (by have:=HB1_33.out.lt;first | omega | (simp only [];omega) | (simp;omega)))⟩ ?_
        rintro w41 ⟨e41,bB1_41,bB3_41⟩
        have HX41:=Lib.hid e41;have HB1_41:=Lib.hid bB1_41;have HB3_41:=Lib.hid bB3_41
        clear e41 bB1_41 bB3_41 c1_0 f1_0 c1_1 f1_1 c1_2 f1_2 c1_3 f1_3
        have gB1_0:=HB1_41.out.cell 0 rfl
        have gB1_1:=HB1_41.out.cell 1 rfl
        have gB1_2:=HB1_41.out.cell 2 rfl
        have gB1_3:=HB1_41.out.cell 3 rfl
        refine bodyPost_ret (v:=.tuple #[.agg #[.int .i64 0,.int .i64 0,.int .i64 0,.int .i64 0],.int .i64 4]) (by simp [results,Tryz.results45,go_sem,gB1_0,gB1_1,gB1_2,gB1_3]) rfl ⟨rfl,HX41.out⟩
      · have HB2:=Lib.hid hb2;clear hb2
        go_wp2_with fail
        refine (div_as N.y J4 p.y HPD.out.2.2.1 _ (HG.out.ext (HX38.out.setCell (by have:=HGEB3.out;first | omega | (simp only [];omega) | (simp;omega)) _)) HN2B.out HJ4B.out (by decide) (by decide) HJN.out).mono ?_;rintro e w39 ⟨rfl,e39⟩
        have HX39:Hid (Ext w w39):=Lib.hid ((HX38.out.setCell (by have:=HGEB3.out;first | omega | (simp only [];omega) | (simp;omega)) _).trans e39)
        have HB1_39:Hid (Blk w39 (w.heap.size + 1) #[.int .i64 0,.int .i64 0,.int .i64 0,.int .i64 0] 22):=Lib.hid (Blk.ext (HB1_38.out.other (a:=⟨w33.heap.size,1,none⟩) _ (by have:=HB1_33.out.lt;first | omega | (simp only [];omega) | (simp;omega))) e39)
        have HB3_39:Hid (Blk w39 (w33.heap.size) #[.int .i64 p.w,.int .i64 p.x,.int .i64 0,.int .i64 0] 22):=Lib.hid (Blk.ext (HB3_38.out.set 1 (.int .i64 p.x)) e39)
        clear e39
        go_wp2_with fail
        refine (ismall_far p.y _ (HG.out.ext HX39.out) HPB.out.2.2.1 (by decide) HB2.out).mono ?_;rintro e w40 ⟨rfl,e40⟩
        have HX40:Hid (Ext w w40):=Lib.hid (HX39.out.trans e40)
        have HB1_40:=Lib.hid (Blk.ext HB1_39.out e40)
        have HB3_40:=Lib.hid (Blk.ext HB3_39.out e40)
        clear e40
        have c1_0:=HB1_40.out.cell 0 rfl
        have f1_0:=HB1_40.out.free 0
        have c1_1:=HB1_40.out.cell 1 rfl
        have f1_1:=HB1_40.out.free 1
        have c1_2:=HB1_40.out.cell 2 rfl
        have f1_2:=HB1_40.out.free 2
        have c1_3:=HB1_40.out.cell 3 rfl
        have f1_3:=HB1_40.out.free 3
        go_upto_region 30 with fail
        repeat (first | go_step | go_guarded | go_skip | go_upon)
        refine wp_name (fun W => Ext w W∧Blk W (w.heap.size + 1) #[.int .i64 0,.int .i64 0,.int .i64 0,.int .i64 0] 22∧Blk W (w33.heap.size) #[.int .i64 p.w,.int .i64 p.x,.int .i64 0,.int .i64 0] 22) ⟨((((HX40.out.setCell (by have:=HGEB1.out;first | omega | (simp only [];omega) | (simp;omega)) _).setCell (by have:=HGEB1.out;first | omega | (simp only [];omega) | (simp;omega)) _).setCell (by have:=HGEB1.out;first | omega | (simp only [];omega) | (simp;omega)) _).setCell (by have:=HGEB1.out;first | omega | (simp only [];omega) | (simp;omega)) _),((((HB1_40.out.set 0 (.int .i64 0)).set 1 (.int .i64 0)).set 2 (.int .i64 0)).set 3 (.int .i64 0)),((((HB3_40.out.other (a:=⟨w.heap.size + 1,0,none⟩) _ (by have:=HB1_33.out.lt;first | omega | (simp only [];omega) | (simp;omega))).other (a:=⟨w.heap.size + 1,1,none⟩) _ (by have:=HB1_33.out.lt;first | omega | (simp only [];omega) | (simp;omega))).other (a:=⟨w.heap.size + 1,2,none⟩) _ (by have:=HB1_33.out.lt;first | omega | (simp only [];omega) | (simp;omega))).other (a:=⟨w.heap.size + 1,3,none⟩) _ (by have:=HB1_33.out.lt;first | omega | (simp only [];omega) | (simp;omega)))⟩ ?_
        rintro w41 ⟨e41,bB1_41,bB3_41⟩
        have HX41:=Lib.hid e41;have HB1_41:=Lib.hid bB1_41;have HB3_41:=Lib.hid bB3_41
        clear e41 bB1_41 bB3_41 c1_0 f1_0 c1_1 f1_1 c1_2 f1_2 c1_3 f1_3
        have gB1_0:=HB1_41.out.cell 0 rfl
        have gB1_1:=HB1_41.out.cell 1 rfl
        have gB1_2:=HB1_41.out.cell 2 rfl
        have gB1_3:=HB1_41.out.cell 3 rfl
        refine bodyPost_ret (v:=.tuple #[.agg #[.int .i64 0,.int .i64 0,.int .i64 0,.int .i64 0],.int .i64 4]) (by simp [results,Tryz.results45,go_sem,gB1_0,gB1_1,gB1_2,gB1_3]) rfl ⟨rfl,HX41.out⟩
    · have pg1_:decide ((1000000:Int) < p.x) = true:=decide_eq_true (by omega)
      have HB1:=Lib.hid hb1;clear hb1
      go_wp2_with fail
      refine (div_as N.x J4 p.x HPD.out.2.1 _ (HG.out.ext (HX36.out.setCell (by have:=HGEB3.out;first | omega | (simp only [];omega) | (simp;omega)) _)) HN1B.out HJ4B.out (by decide) (by decide) HJN.out).mono ?_;rintro e w37 ⟨rfl,e37⟩
      have HX37:Hid (Ext w w37):=Lib.hid ((HX36.out.setCell (by have:=HGEB3.out;first | omega | (simp only [];omega) | (simp;omega)) _).trans e37)
      have HB1_37:Hid (Blk w37 (w.heap.size + 1) #[.int .i64 0,.int .i64 0,.int .i64 0,.int .i64 0] 22):=Lib.hid (Blk.ext (HB1_36.out.other (a:=⟨w33.heap.size,0,none⟩) _ (by have:=HB1_33.out.lt;first | omega | (simp only [];omega) | (simp;omega))) e37)
      have HB3_37:Hid (Blk w37 (w33.heap.size) #[.int .i64 p.w,.int .i64 0,.int .i64 0,.int .i64 0] 22):=Lib.hid (Blk.ext (HB3_36.out.set 0 (.int .i64 p.w)) e37)
      clear e37
      go_wp2_with fail
      refine (ismall_in p.x _ (HG.out.ext HX37.out) (by have:=HB1.out;omega) (by have:=HB1.out;omega)).mono ?_;rintro e w38 ⟨rfl,e38⟩
      have HX38:Hid (Ext w w38):=Lib.hid (HX37.out.trans e38)
      have HB1_38:=Lib.hid (Blk.ext HB1_37.out e38)
      have HB3_38:=Lib.hid (Blk.ext HB3_37.out e38)
      clear e38
      have c1_0:=HB1_38.out.cell 0 rfl
      have f1_0:=HB1_38.out.free 0
      have c1_1:=HB1_38.out.cell 1 rfl
      have f1_1:=HB1_38.out.free 1
      have c1_2:=HB1_38.out.cell 2 rfl
      have f1_2:=HB1_38.out.free 2
      have c1_3:=HB1_38.out.cell 3 rfl
      have f1_3:=HB1_38.out.free 3
      go_upto_region 30 with fail
      repeat (first | go_step | go_guarded | go_skip | go_upon)
      refine wp_name (fun W => Ext w W∧Blk W (w.heap.size + 1) #[.int .i64 0,.int .i64 0,.int .i64 0,.int .i64 0] 22∧Blk W (w33.heap.size) #[.int .i64 p.w,.int .i64 0,.int .i64 0,.int .i64 0] 22) ⟨((((HX38.out.setCell (by have:=HGEB1.out;first | omega | (simp only [];omega) | (simp;omega)) _).setCell (by have:=HGEB1.out;first | omega | (simp only [];omega) | (simp;omega)) _).setCell (by have:=HGEB1.out;first | omega | (simp only [];omega) | (simp;omega)) _).setCell (by have:=HGEB1.out;first | omega | (simp only [];omega) | (simp;omega)) _),((((HB1_38.out.set 0 (.int .i64 0)).set 1 (.int .i64 0)).set 2 (.int .i64 0)).set 3 (.int .i64 0)),((((HB3_38.out.other (a:=⟨w.heap.size + 1,0,none⟩) _ (by have:=HB1_33.out.lt;first | omega | (simp only [];omega) | (simp;omega))).other (a:=⟨w.heap.size + 1,1,none⟩) _ (by have:=HB1_33.out.lt;first | omega | (simp only [];omega) | (simp;omega))).other (a:=⟨w.heap.size + 1,2,none⟩) _ (by have:=HB1_33.out.lt;first | omega | (simp only [];omega) | (simp;omega))).other (a:=⟨w.heap.size + 1,3,none⟩) _ (by have:=HB1_33.out.lt;first | omega | (simp only [];omega) | (simp;omega)))⟩ ?_
      rintro w39 ⟨e39,bB1_39,bB3_39⟩
      have HX39:=Lib.hid e39;have HB1_39:=Lib.hid bB1_39;have HB3_39:=Lib.hid bB3_39
      clear e39 bB1_39 bB3_39 c1_0 f1_0 c1_1 f1_1 c1_2 f1_2 c1_3 f1_3
      have gB1_0:=HB1_39.out.cell 0 rfl
      have gB1_1:=HB1_39.out.cell 1 rfl
      have gB1_2:=HB1_39.out.cell 2 rfl
      have gB1_3:=HB1_39.out.cell 3 rfl
      refine bodyPost_ret (v:=.tuple #[.agg #[.int .i64 0,.int .i64 0,.int .i64 0,.int .i64 0],.int .i64 4]) (by simp [results,Tryz.results45,go_sem,gB1_0,gB1_1,gB1_2,gB1_3]) rfl ⟨rfl,HX39.out⟩
    · have pg1_:decide ((1000000:Int) < p.x) = false:=decide_eq_false (by omega)
      have pl1_:decide (p.x < -1000000) = true:=decide_eq_true (by omega)
      have HB1:=Lib.hid hb1;clear hb1
      go_wp2_with fail
      refine (div_as N.x J4 p.x HPD.out.2.1 _ (HG.out.ext (HX36.out.setCell (by have:=HGEB3.out;first | omega | (simp only [];omega) | (simp;omega)) _)) HN1B.out HJ4B.out (by decide) (by decide) HJN.out).mono ?_;rintro e w37 ⟨rfl,e37⟩
      have HX37:Hid (Ext w w37):=Lib.hid ((HX36.out.setCell (by have:=HGEB3.out;first | omega | (simp only [];omega) | (simp;omega)) _).trans e37)
      have HB1_37:Hid (Blk w37 (w.heap.size + 1) #[.int .i64 0,.int .i64 0,.int .i64 0,.int .i64 0] 22):=Lib.hid (Blk.ext (HB1_36.out.other (a:=⟨w33.heap.size,0,none⟩) _ (by have:=HB1_33.out.lt;first | omega | (simp only [];omega) | (simp;omega))) e37)
      have HB3_37:Hid (Blk w37 (w33.heap.size) #[.int .i64 p.w,.int .i64 0,.int .i64 0,.int .i64 0] 22):=Lib.hid (Blk.ext (HB3_36.out.set 0 (.int .i64 p.w)) e37)
      clear e37
      go_wp2_with fail
      refine (ismall_in p.x _ (HG.out.ext HX37.out) (by have:=HB1.out;omega) (by have:=HB1.out;omega)).mono ?_;rintro e w38 ⟨rfl,e38⟩
      have HX38:Hid (Ext w w38):=Lib.hid (HX37.out.trans e38)
      have HB1_38:=Lib.hid (Blk.ext HB1_37.out e38)
      have HB3_38:=Lib.hid (Blk.ext HB3_37.out e38)
      clear e38
      have c1_0:=HB1_38.out.cell 0 rfl
      have f1_0:=HB1_38.out.free 0
      have c1_1:=HB1_38.out.cell 1 rfl
      have f1_1:=HB1_38.out.free 1
      have c1_2:=HB1_38.out.cell 2 rfl
      have f1_2:=HB1_38.out.free 2
      have c1_3:=HB1_38.out.cell 3 rfl
      have f1_3:=HB1_38.out.free 3
      go_upto_region 30 with fail
      repeat (first | go_step | go_guarded | go_skip | go_upon)
      refine wp_name (fun W => Ext w W∧Blk W (w.heap.size + 1) #[.int .i64 0,.int .i64 0,.int .i64 0,.int .i64 0] 22∧Blk W (w33.heap.size) #[.int .i64 p.w,.int .i64 0,.int .i64 0,.int .i64 0] 22) ⟨((((HX38.out.setCell (by have:=HGEB1.out;first | omega | (simp only [];omega) | (simp;omega)) _).setCell (by have:=HGEB1.out;first | omega | (simp only [];omega) | (simp;omega)) _).setCell (by have:=HGEB1.out;first | omega | (simp only [];omega) | (simp;omega)) _).setCell (by have:=HGEB1.out;first | omega | (simp only [];omega) | (simp;omega)) _),((((HB1_38.out.set 0 (.int .i64 0)).set 1 (.int .i64 0)).set 2 (.int .i64 0)).set 3 (.int .i64 0)),((((HB3_38.out.other (a:=⟨w.heap.size + 1,0,none⟩) _ (by have:=HB1_33.out.lt;first | omega | (simp only [];omega) | (simp;omega))).other (a:=⟨w.heap.size + 1,1,none⟩) _ (by have:=HB1_33.out.lt;first | omega | (simp only [];omega) | (simp;omega))).other (a:=⟨w.heap.size + 1,2,none⟩) _ (by have:=HB1_33.out.lt;first | omega | (simp only [];omega) | (simp;omega))).other (a:=⟨w.heap.size + 1,3,none⟩) _ (by have:=HB1_33.out.lt;first | omega | (simp only [];omega) | (simp;omega)))⟩ ?_
      rintro w39 ⟨e39,bB1_39,bB3_39⟩
      have HX39:=Lib.hid e39;have HB1_39:=Lib.hid bB1_39;have HB3_39:=Lib.hid bB3_39
      clear e39 bB1_39 bB3_39 c1_0 f1_0 c1_1 f1_1 c1_2 f1_2 c1_3 f1_3
      have gB1_0:=HB1_39.out.cell 0 rfl
      have gB1_1:=HB1_39.out.cell 1 rfl
      have gB1_2:=HB1_39.out.cell 2 rfl
      have gB1_3:=HB1_39.out.cell 3 rfl
      refine bodyPost_ret (v:=.tuple #[.agg #[.int .i64 0,.int .i64 0,.int .i64 0,.int .i64 0],.int .i64 4]) (by simp [results,Tryz.results45,go_sem,gB1_0,gB1_1,gB1_2,gB1_3]) rfl ⟨rfl,HX39.out⟩
    · have HB1:=Lib.hid hb1;clear hb1
      go_wp2_with fail
      refine (div_as N.x J4 p.x HPD.out.2.1 _ (HG.out.ext (HX36.out.setCell (by have:=HGEB3.out;first | omega | (simp only [];omega) | (simp;omega)) _)) HN1B.out HJ4B.out (by decide) (by decide) HJN.out).mono ?_;rintro e w37 ⟨rfl,e37⟩
      have HX37:Hid (Ext w w37):=Lib.hid ((HX36.out.setCell (by have:=HGEB3.out;first | omega | (simp only [];omega) | (simp;omega)) _).trans e37)
      have HB1_37:Hid (Blk w37 (w.heap.size + 1) #[.int .i64 0,.int .i64 0,.int .i64 0,.int .i64 0] 22):=Lib.hid (Blk.ext (HB1_36.out.other (a:=⟨w33.heap.size,0,none⟩) _ (by have:=HB1_33.out.lt;first | omega | (simp only [];omega) | (simp;omega))) e37)
      have HB3_37:Hid (Blk w37 (w33.heap.size) #[.int .i64 p.w,.int .i64 0,.int .i64 0,.int .i64 0] 22):=Lib.hid (Blk.ext (HB3_36.out.set 0 (.int .i64 p.w)) e37)
      clear e37
      go_wp2_with fail
      refine (ismall_far p.x _ (HG.out.ext HX37.out) HPB.out.2.1 (by decide) HB1.out).mono ?_;rintro e w38 ⟨rfl,e38⟩
      have HX38:Hid (Ext w w38):=Lib.hid (HX37.out.trans e38)
      have HB1_38:=Lib.hid (Blk.ext HB1_37.out e38)
      have HB3_38:=Lib.hid (Blk.ext HB3_37.out e38)
      clear e38
      have c1_0:=HB1_38.out.cell 0 rfl
      have f1_0:=HB1_38.out.free 0
      have c1_1:=HB1_38.out.cell 1 rfl
      have f1_1:=HB1_38.out.free 1
      have c1_2:=HB1_38.out.cell 2 rfl
      have f1_2:=HB1_38.out.free 2
      have c1_3:=HB1_38.out.cell 3 rfl
      have f1_3:=HB1_38.out.free 3
      go_upto_region 30 with fail
      repeat (first | go_step | go_guarded | go_skip | go_upon)
      refine wp_name (fun W => Ext w W∧Blk W (w.heap.size + 1) #[.int .i64 0,.int .i64 0,.int .i64 0,.int .i64 0] 22∧Blk W (w33.heap.size) #[.int .i64 p.w,.int .i64 0,.int .i64 0,.int .i64 0] 22) ⟨((((HX38.out.setCell (by have:=HGEB1.out;first | omega | (simp only [];omega) | (simp;omega)) _).setCell (by have:=HGEB1.out;first | omega | (simp only [];omega) | (simp;omega)) _).setCell (by have:=HGEB1.out;first | omega | (simp only [];omega) | (simp;omega)) _).setCell (by have:=HGEB1.out;first | omega | (simp only [];omega) | (simp;omega)) _),((((HB1_38.out.set 0 (.int .i64 0)).set 1 (.int .i64 0)).set 2 (.int .i64 0)).set 3 (.int .i64 0)),((((HB3_38.out.other (a:=⟨w.heap.size + 1,0,none⟩) _ (by have:=HB1_33.out.lt;first | omega | (simp only [];omega) | (simp;omega))).other (a:=⟨w.heap.size + 1,1,none⟩) _ (by have:=HB1_33.out.lt;first | omega | (simp only [];omega) | (simp;omega))).other (a:=⟨w.heap.size + 1,2,none⟩) _ (by have:=HB1_33.out.lt;first | omega | (simp only [];omega) | (simp;omega))).other (a:=⟨w.heap.size + 1,3,none⟩) _ (by have:=HB1_33.out.lt;first | omega | (simp only [];omega) | (simp;omega)))⟩ ?_
      rintro w39 ⟨e39,bB1_39,bB3_39⟩
      have HX39:=Lib.hid e39;have HB1_39:=Lib.hid bB1_39;have HB3_39:=Lib.hid bB3_39
      clear e39 bB1_39 bB3_39 c1_0 f1_0 c1_1 f1_1 c1_2 f1_2 c1_3 f1_3
      have gB1_0:=HB1_39.out.cell 0 rfl
      have gB1_1:=HB1_39.out.cell 1 rfl
      have gB1_2:=HB1_39.out.cell 2 rfl
      have gB1_3:=HB1_39.out.cell 3 rfl
      refine bodyPost_ret (v:=.tuple #[.agg #[.int .i64 0,.int .i64 0,.int .i64 0,.int .i64 0],.int .i64 4]) (by simp [results,Tryz.results45,go_sem,gB1_0,gB1_1,gB1_2,gB1_3]) rfl ⟨rfl,HX39.out⟩
  · have pg0_:decide ((1000000:Int) < p.w) = true:=decide_eq_true (by omega)
    have HB0:=Lib.hid hb0;clear hb0
    go_wp2_with fail
    refine (div_as N.w J4 p.w HPD.out.1 _ (HG.out.ext HX34.out) HN0B.out HJ4B.out (by decide) (by decide) HJN.out).mono ?_;rintro e w35 ⟨rfl,e35⟩
    have HX35:Hid (Ext w w35):=Lib.hid (HX34.out.trans e35)
    have HB1_35:=Lib.hid (Blk.ext HB1_34.out e35)
    have HB3_35:=Lib.hid (Blk.ext HB3_34.out e35)
    clear e35
    go_wp2_with fail
    refine (ismall_in p.w _ (HG.out.ext HX35.out) (by have:=HB0.out;omega) (by have:=HB0.out;omega)).mono ?_;rintro e w36 ⟨rfl,e36⟩
    have HX36:Hid (Ext w w36):=Lib.hid (HX35.out.trans e36)
    have HB1_36:=Lib.hid (Blk.ext HB1_35.out e36)
    have HB3_36:=Lib.hid (Blk.ext HB3_35.out e36)
    clear e36
    have c1_0:=HB1_36.out.cell 0 rfl
    have f1_0:=HB1_36.out.free 0
    have c1_1:=HB1_36.out.cell 1 rfl
    have f1_1:=HB1_36.out.free 1
    have c1_2:=HB1_36.out.cell 2 rfl
    have f1_2:=HB1_36.out.free 2
    have c1_3:=HB1_36.out.cell 3 rfl
    have f1_3:=HB1_36.out.free 3
    go_upto_region 30 with fail
    repeat (first | go_step | go_guarded | go_skip | go_upon)
    refine wp_name (fun W => Ext w W∧Blk W (w.heap.size + 1) #[.int .i64 0,.int .i64 0,.int .i64 0,.int .i64 0] 22∧Blk W (w33.heap.size) #[.int .i64 0,.int .i64 0,.int .i64 0,.int .i64 0] 22) ⟨((((HX36.out.setCell (by have:=HGEB1.out;first | omega | (simp only [];omega) | (simp;omega)) _).setCell (by have:=HGEB1.out;first | omega | (simp only [];omega) | (simp;omega)) _).setCell (by have:=HGEB1.out;first | omega | (simp only [];omega) | (simp;omega)) _).setCell (by have:=HGEB1.out;first | omega | (simp only [];omega) | (simp;omega)) _),((((HB1_36.out.set 0 (.int .i64 0)).set 1 (.int .i64 0)).set 2 (.int .i64 0)).set 3 (.int .i64 0)),((((HB3_36.out.other (a:=⟨w.heap.size + 1,0,none⟩) _ (by have:=HB1_33.out.lt;first | omega | (simp only [];omega) | (simp;omega))).other (a:=⟨w.heap.size + 1,1,none⟩) _ (by have:=HB1_33.out.lt;first | omega | (simp only [];omega) | (simp;omega))).other (a:=⟨w.heap.size + 1,2,none⟩) _ (by have:=HB1_33.out.lt;first | omega | (simp only [];omega) | (simp;omega))).other (a:=⟨w.heap.size + 1,3,none⟩) _ (by have:=HB1_33.out.lt;first | omega | (simp only [];omega) | (simp;omega)))⟩ ?_
    rintro w37 ⟨e37,bB1_37,bB3_37⟩
    have HX37:=Lib.hid e37;have HB1_37:=Lib.hid bB1_37;have HB3_37:=Lib.hid bB3_37
    clear e37 bB1_37 bB3_37 c1_0 f1_0 c1_1 f1_1 c1_2 f1_2 c1_3 f1_3
    have gB1_0:=HB1_37.out.cell 0 rfl
    have gB1_1:=HB1_37.out.cell 1 rfl
    have gB1_2:=HB1_37.out.cell 2 rfl
    have gB1_3:=HB1_37.out.cell 3 rfl
    refine bodyPost_ret (v:=.tuple #[.agg #[.int .i64 0,.int .i64 0,.int .i64 0,.int .i64 0],.int .i64 4]) (by simp [results,Tryz.results45,go_sem,gB1_0,gB1_1,gB1_2,gB1_3]) rfl ⟨rfl,HX37.out⟩
  · have pg0_:decide ((1000000:Int) < p.w) = false:=decide_eq_false (by omega)
    have pl0_:decide (p.w < -1000000) = true:=decide_eq_true (by omega)
    have HB0:=Lib.hid hb0;clear hb0
    go_wp2_with fail
    refine (div_as N.w J4 p.w HPD.out.1 _ (HG.out.ext HX34.out) HN0B.out HJ4B.out (by decide) (by decide) HJN.out).mono ?_;rintro e w35 ⟨rfl,e35⟩
    have HX35:Hid (Ext w w35):=Lib.hid (HX34.out.trans e35)
    have HB1_35:=Lib.hid (Blk.ext HB1_34.out e35)
    have HB3_35:=Lib.hid (Blk.ext HB3_34.out e35)
    clear e35
    go_wp2_with fail
    refine (ismall_in p.w _ (HG.out.ext HX35.out) (by have:=HB0.out;omega) (by have:=HB0.out;omega)).mono ?_;rintro e w36 ⟨rfl,e36⟩
    have HX36:Hid (Ext w w36):=Lib.hid (HX35.out.trans e36)
    have HB1_36:=Lib.hid (Blk.ext HB1_35.out e36)
    have HB3_36:=Lib.hid (Blk.ext HB3_35.out e36)
    clear e36
    have c1_0:=HB1_36.out.cell 0 rfl
    have f1_0:=HB1_36.out.free 0
    have c1_1:=HB1_36.out.cell 1 rfl
    have f1_1:=HB1_36.out.free 1
    have c1_2:=HB1_36.out.cell 2 rfl
    have f1_2:=HB1_36.out.free 2
    have c1_3:=HB1_36.out.cell 3 rfl
    have f1_3:=HB1_36.out.free 3
    go_upto_region 30 with fail
    repeat (first | go_step | go_guarded | go_skip | go_upon)
    refine wp_name (fun W => Ext w W∧Blk W (w.heap.size + 1) #[.int .i64 0,.int .i64 0,.int .i64 0,.int .i64 0] 22∧Blk W (w33.heap.size) #[.int .i64 0,.int .i64 0,.int .i64 0,.int .i64 0] 22) ⟨((((HX36.out.setCell (by have:=HGEB1.out;first | omega | (simp only [];omega) | (simp;omega)) _).setCell (by have:=HGEB1.out;first | omega | (simp only [];omega) | (simp;omega)) _).setCell (by have:=HGEB1.out;first | omega | (simp only [];omega) | (simp;omega)) _).setCell (by have:=HGEB1.out;first | omega | (simp only [];omega) | (simp;omega)) _),((((HB1_36.out.set 0 (.int .i64 0)).set 1 (.int .i64 0)).set 2 (.int .i64 0)).set 3 (.int .i64 0)),((((HB3_36.out.other (a:=⟨w.heap.size + 1,0,none⟩) _ (by have:=HB1_33.out.lt;first | omega | (simp only [];omega) | (simp;omega))).other (a:=⟨w.heap.size + 1,1,none⟩) _ (by have:=HB1_33.out.lt;first | omega | (simp only [];omega) | (simp;omega))).other (a:=⟨w.heap.size + 1,2,none⟩) _ (by have:=HB1_33.out.lt;first | omega | (simp only [];omega) | (simp;omega))).other (a:=⟨w.heap.size + 1,3,none⟩) _ (by have:=HB1_33.out.lt;first | omega | (simp only [];omega) | (simp;omega)))⟩ ?_
    rintro w37 ⟨e37,bB1_37,bB3_37⟩
    have HX37:=Lib.hid e37;have HB1_37:=Lib.hid bB1_37;have HB3_37:=Lib.hid bB3_37
    clear e37 bB1_37 bB3_37 c1_0 f1_0 c1_1 f1_1 c1_2 f1_2 c1_3 f1_3
    have gB1_0:=HB1_37.out.cell 0 rfl
    have gB1_1:=HB1_37.out.cell 1 rfl
    have gB1_2:=HB1_37.out.cell 2 rfl
    have gB1_3:=HB1_37.out.cell 3 rfl
    refine bodyPost_ret (v:=.tuple #[.agg #[.int .i64 0,.int .i64 0,.int .i64 0,.int .i64 0],.int .i64 4]) (by simp [results,Tryz.results45,go_sem,gB1_0,gB1_1,gB1_2,gB1_3]) rfl ⟨rfl,HX37.out⟩
  · have HB0:=Lib.hid hb0;clear hb0
    go_wp2_with fail
    refine (div_as N.w J4 p.w HPD.out.1 _ (HG.out.ext HX34.out) HN0B.out HJ4B.out (by decide) (by decide) HJN.out).mono ?_;rintro e w35 ⟨rfl,e35⟩
    have HX35:Hid (Ext w w35):=Lib.hid (HX34.out.trans e35)
    have HB1_35:=Lib.hid (Blk.ext HB1_34.out e35)
    have HB3_35:=Lib.hid (Blk.ext HB3_34.out e35)
    clear e35
    go_wp2_with fail
    refine (ismall_far p.w _ (HG.out.ext HX35.out) HPB.out.1 (by decide) HB0.out).mono ?_;rintro e w36 ⟨rfl,e36⟩
    have HX36:Hid (Ext w w36):=Lib.hid (HX35.out.trans e36)
    have HB1_36:=Lib.hid (Blk.ext HB1_35.out e36)
    have HB3_36:=Lib.hid (Blk.ext HB3_35.out e36)
    clear e36
    have c1_0:=HB1_36.out.cell 0 rfl
    have f1_0:=HB1_36.out.free 0
    have c1_1:=HB1_36.out.cell 1 rfl
    have f1_1:=HB1_36.out.free 1
    have c1_2:=HB1_36.out.cell 2 rfl
    have f1_2:=HB1_36.out.free 2
    have c1_3:=HB1_36.out.cell 3 rfl
    have f1_3:=HB1_36.out.free 3
    go_upto_region 30 with fail
    repeat (first | go_step | go_guarded | go_skip | go_upon)
    refine wp_name (fun W => Ext w W∧Blk W (w.heap.size + 1) #[.int .i64 0,.int .i64 0,.int .i64 0,.int .i64 0] 22∧Blk W (w33.heap.size) #[.int .i64 0,.int .i64 0,.int .i64 0,.int .i64 0] 22) ⟨((((HX36.out.setCell (by have:=HGEB1.out;first | omega | (simp only [];omega) | (simp;omega)) _).setCell (by have:=HGEB1.out;first | omega | (simp only [];omega) | (simp;omega)) _).setCell (by have:=HGEB1.out;first | omega | (simp only [];omega) | (simp;omega)) _).setCell (by have:=HGEB1.out;first | omega | (simp only [];omega) | (simp;omega)) _),((((HB1_36.out.set 0 (.int .i64 0)).set 1 (.int .i64 0)).set 2 (.int .i64 0)).set 3 (.int .i64 0)),((((HB3_36.out.other (a:=⟨w.heap.size + 1,0,none⟩) _ (by have:=HB1_33.out.lt;first | omega | (simp only [];omega) | (simp;omega))).other (a:=⟨w.heap.size + 1,1,none⟩) _ (by have:=HB1_33.out.lt;first | omega | (simp only [];omega) | (simp;omega))).other (a:=⟨w.heap.size + 1,2,none⟩) _ (by have:=HB1_33.out.lt;first | omega | (simp only [];omega) | (simp;omega))).other (a:=⟨w.heap.size + 1,3,none⟩) _ (by have:=HB1_33.out.lt;first | omega | (simp only [];omega) | (simp;omega)))⟩ ?_
    rintro w37 ⟨e37,bB1_37,bB3_37⟩
    have HX37:=Lib.hid e37;have HB1_37:=Lib.hid bB1_37;have HB3_37:=Lib.hid bB3_37
    clear e37 bB1_37 bB3_37 c1_0 f1_0 c1_1 f1_1 c1_2 f1_2 c1_3 f1_3
    have gB1_0:=HB1_37.out.cell 0 rfl
    have gB1_1:=HB1_37.out.cell 1 rfl
    have gB1_2:=HB1_37.out.cell 2 rfl
    have gB1_3:=HB1_37.out.cell 3 rfl
    refine bodyPost_ret (v:=.tuple #[.agg #[.int .i64 0,.int .i64 0,.int .i64 0,.int .i64 0],.int .i64 4]) (by simp [results,Tryz.results45,go_sem,gB1_0,gB1_1,gB1_2,gB1_3]) rfl ⟨rfl,HX37.out⟩
end Go.Proofs.YtjeimihnoiephaaGreatDoor
