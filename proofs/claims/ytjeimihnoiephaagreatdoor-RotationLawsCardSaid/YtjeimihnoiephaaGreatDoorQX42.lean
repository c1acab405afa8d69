/- Part 42 of the proof: M7, M10, M11. -/
import Derived.Test.YtjeimihnoiephaaGreatDoorQX1
import Derived.Test.YtjeimihnoiephaaGreatDoorQX2
import Derived.Test.YtjeimihnoiephaaGreatDoorQX3
import Derived.Test.YtjeimihnoiephaaGreatDoorQX4
import Derived.Test.YtjeimihnoiephaaGreatDoorQX5
import Derived.Test.YtjeimihnoiephaaGreatDoorQX6
import Derived.Test.YtjeimihnoiephaaGreatDoorQX7
import Derived.Test.YtjeimihnoiephaaGreatDoorQX8
import Derived.Test.YtjeimihnoiephaaGreatDoorQX9
import Derived.Test.YtjeimihnoiephaaGreatDoorQX10
import Derived.Test.YtjeimihnoiephaaGreatDoorQX11
import Derived.Test.YtjeimihnoiephaaGreatDoorQX12
import Derived.Test.YtjeimihnoiephaaGreatDoorQX13
import Derived.Test.YtjeimihnoiephaaGreatDoorQX14
import Derived.Test.YtjeimihnoiephaaGreatDoorQX15
import Derived.Test.YtjeimihnoiephaaGreatDoorQX16
import Derived.Test.YtjeimihnoiephaaGreatDoorQX17
import Derived.Test.YtjeimihnoiephaaGreatDoorQX18
import Derived.Test.YtjeimihnoiephaaGreatDoorQX19
import Derived.Test.YtjeimihnoiephaaGreatDoorQX20
import Derived.Test.YtjeimihnoiephaaGreatDoorQX21
import Derived.Test.YtjeimihnoiephaaGreatDoorQX22
import Derived.Test.YtjeimihnoiephaaGreatDoorQX23
import Derived.Test.YtjeimihnoiephaaGreatDoorQX24
import Derived.Test.YtjeimihnoiephaaGreatDoorQX25
import Derived.Test.YtjeimihnoiephaaGreatDoorQX26
import Derived.Test.YtjeimihnoiephaaGreatDoorQX27
import Derived.Test.YtjeimihnoiephaaGreatDoorQX28
import Derived.Test.YtjeimihnoiephaaGreatDoorQX29
import Derived.Test.YtjeimihnoiephaaGreatDoorQX30
import Derived.Test.YtjeimihnoiephaaGreatDoorQX31
import Derived.Test.YtjeimihnoiephaaGreatDoorQX32
import Derived.Test.YtjeimihnoiephaaGreatDoorQX33
import Derived.Test.YtjeimihnoiephaaGreatDoorQX34
import Derived.Test.YtjeimihnoiephaaGreatDoorQX35
import Derived.Test.YtjeimihnoiephaaGreatDoorQX36
import Derived.Test.YtjeimihnoiephaaGreatDoorQX37
import Derived.Test.YtjeimihnoiephaaGreatDoorQX38
import Derived.Test.YtjeimihnoiephaaGreatDoorQX39
import Derived.Test.YtjeimihnoiephaaGreatDoorQX40
import Derived.Test.YtjeimihnoiephaaGreatDoorQX41
namespace Go.Proofs.YtjeimihnoiephaaGreatDoor
open Go Go.RowKit
set_option linter.unusedVariables false
theorem conj4_bd {a:Q4} (h:Q4In a):Q4Bd (conj4 a):=⟨by have:=h.w;show -10000000000000 ≤ a.w∧a.w ≤ 10000000000000;omega,by have:=h.x;show -10000000000000 ≤ -a.x∧-a.x ≤ 10000000000000;omega,by have:=h.y;show -10000000000000 ≤ -a.y∧-a.y ≤ 10000000000000;omega,by have:=h.z;show -10000000000000 ≤ -a.z∧-a.z ≤ 10000000000000;omega⟩
theorem rprimc_as (a p:Q4) (e:prim4 (conj4 a) = p) (w:World) (g:Gd w) (hi:Q4In a) (hz:¬ a.zero):Calls Tryz.prog 55 #[.agg #[.int .i64 a.w,.int .i64 (-a.x),.int .i64 (-a.y),.int .i64 (-a.z)]] w (Ret w (.agg #[.int .i64 p.w,.int .i64 p.x,.int .i64 p.y,.int .i64 p.z])):=rprim_as (conj4 a) p e w g (conj4_bd hi) (conj4_nz hz)
set_option maxRecDepth 100000 in
set_option maxHeartbeats 2000000 in
theorem rinv_c (a p:Q4) (w:World) (g:Gd w) (hq:QErr a 0) (hi:Q4In a) (hz:¬ a.zero) (hp:prim4 (conj4 a) = p):Calls Tryz.prog 22 #[.agg #[.int .i64 a.w,.int .i64 a.x,.int .i64 a.y,.int .i64 a.z]] w (Ret w (.tuple #[.agg #[.int .i64 p.w,.int .i64 p.x,.int .i64 p.y,.int .i64 p.z],.int .i64 0])):=by
  have HE:=Lib.hid hq
  have HZ:=Lib.hid hz
  have HEP:=Lib.hid hp
  have HG:=Lib.hid g
  clear hq hz hp g
  have bw:=hi.w;have bx:=hi.x;have by_:=hi.y;have bz:=hi.z
  have HI:=Lib.hid hi;clear hi
  go_enter Tryz.func22,Tryz.ntmps22
  go_wp2_with fail
  refine (rchk_l _ (HG.out.ext (((Ext.refl w).alloc _).alloc _)) HE.out).mono ?_;rintro e w1 ⟨rfl,e1⟩
  have HX1:Hid (Ext w w1):=Lib.hid ((((Ext.refl w).alloc _).alloc _).trans e1)
  have HB0_1:Hid (Blk w1 (w.heap.size) #[.int .i64 a.w,.int .i64 a.x,.int .i64 a.y,.int .i64 a.z] 22):=Lib.hid (Blk.ext ((Blk.new' (w:=_) (cs:=#[.int .i64 a.w,.int .i64 a.x,.int .i64 a.y,.int .i64 a.z]) (t:=22) (by first | rfl | (simp only [World.size_alloc];done) | (simp only [World.size_alloc];omega) | simp)).alloc _) e1)
  have HB1_1:Hid (Blk w1 (w.heap.size + 1) #[.int .i64 0,.int .i64 0,.int .i64 0,.int .i64 0] 22):=Lib.hid (Blk.ext (Blk.new' (w:=_) (cs:=#[.int .i64 0,.int .i64 0,.int .i64 0,.int .i64 0]) (t:=22) (by first | rfl | (simp only [World.size_alloc];done) | (simp only [World.size_alloc];omega) | simp)) e1)
  have HGEB0:Hid (w.heap.size ≤ w.heap.size):=Lib.hid (by first | omega | (simp only [];omega) | (simp;omega))
  have HGEB1:Hid (w.heap.size ≤ w.heap.size + 1):=Lib.hid (by first | omega | (simp only [];omega) | (simp;omega))
  clear e1
  have c0_0:=HB0_1.out.cell 0 rfl
  have c0_1:=HB0_1.out.cell 1 rfl
  have c0_2:=HB0_1.out.cell 2 rfl
  have c0_3:=HB0_1.out.cell 3 rfl
  go_wp2_with fail
  refine (rprimc_as a p HEP.out _ (HG.out.ext HX1.out) HI.out HZ.out).mono ?_;rintro e w2 ⟨rfl,e2⟩
  have HX2:Hid (Ext w w2):=Lib.hid (HX1.out.trans e2)
  have HB1_2:=Lib.hid (Blk.ext HB1_1.out e2)
  clear e2 c0_0 c0_1 c0_2 c0_3
  have c1_0:=HB1_2.out.cell 0 rfl
  have f1_0:=HB1_2.out.free 0
  have c1_1:=HB1_2.out.cell 1 rfl
  have f1_1:=HB1_2.out.free 1
  have c1_2:=HB1_2.out.cell 2 rfl
  have f1_2:=HB1_2.out.free 2
  have c1_3:=HB1_2.out.cell 3 rfl
  have f1_3:=HB1_2.out.free 3
  go_wp2_with fail
  refine wp_name (fun W => Ext w W∧Blk W (w.heap.size + 1) #[.int .i64 p.w,.int .i64 p.x,.int .i64 p.y,.int .i64 p.z] 22) ⟨((((HX2.out.setCell (by have:=HGEB1.out;first | omega | (simp only [];omega) | (simp;omega)) _).setCell (by have:=HGEB1.out;first | omega | (simp only [];omega) | (simp;omega)) _).setCell (by have:=HGEB1.out;first | omega | (simp only [];omega) | (simp;omega)) _).setCell (by have:=HGEB1.out;first | omega | (simp only [];omega) | (simp;omega)) _),((((HB1_2.out.set 0 (.int .i64 p.w)).set 1 (.int .i64 p.x)).set 2 (.int .i64 p.y)).set 3 (.int .i64 p.z))⟩ ?_
  rintro w3 ⟨e3,bB1_3⟩
  have HX3:=Lib.hid e3;have HB1_3:=Lib.hid bB1_3
  clear e3 bB1_3 c1_0 f1_0 c1_1 f1_1 c1_2 f1_2 c1_3 f1_3
  have gB1_0:=HB1_3.out.cell 0 rfl
  have gB1_1:=HB1_3.out.cell 1 rfl
  have gB1_2:=HB1_3.out.cell 2 rfl
  have gB1_3:=HB1_3.out.cell 3 rfl
  refine bodyPost_ret (v:=.tuple #[.agg #[.int .i64 p.w,.int .i64 p.x,.int .i64 p.y,.int .i64 p.z],.int .i64 0]) (by simp [results,Tryz.results22,go_sem,gB1_0,gB1_1,gB1_2,gB1_3]) rfl ⟨rfl,HX3.out⟩

end Go.Proofs.YtjeimihnoiephaaGreatDoor

namespace Go.Proofs.YtjeimihnoiephaaGreatDoor
open Go Go.RowKit
set_option linter.unusedVariables false
theorem rot_qbS {t:Q4} {v:V3} {k:Nat} (h:Q4S t) (hz:¬ t.zero) (hv:VB k v):VB (3 * (4 + k) + 4) (rot t v):=by
  have hp:=norm4_pos hz
  have p:∀ {a b:Int},(-20 ≤ a∧a ≤ 20) → (-20 ≤ b∧b ≤ 20) → -400 ≤ a * b∧a * b ≤ 400:=fun {a b} ha hb => by
    have h:(a * b).natAbs ≤ 20 * 20:=by rw [Int.natAbs_mul];exact Nat.mul_le_mul (by omega) (by omega)
    omega
  have ww:=p h.w h.w;have xx:=p h.x h.x;have yy:=p h.y h.y;have zz:=p h.z h.z
  have xy:=p h.x h.y;have wz:=p h.w h.z;have xz:=p h.x h.z;have wy:=p h.w h.y;have yz:=p h.y h.z;have wx:=p h.w h.x
  have hn:norm4 t ≤ 1600:=by unfold norm4;omega
  have e:∀ n:Int,-3200 ≤ n → n ≤ 3200 → QB 4 (fr n (norm4 t)):=fun n h1 h2 => qb_fr hp (by omega) (by omega)
  have r1:VB 4 (row1 t):=⟨e _ (by omega) (by omega),e _ (by omega) (by omega),e _ (by omega) (by omega)⟩
  have r2:VB 4 (row2 t):=⟨e _ (by omega) (by omega),e _ (by omega) (by omega),e _ (by omega) (by omega)⟩
  have r3:VB 4 (row3 t):=⟨e _ (by omega) (by omega),e _ (by omega) (by omega),e _ (by omega) (by omega)⟩
  exact ⟨dot3_qb r1 hv,dot3_qb r2 hv,dot3_qb r3 hv⟩
end Go.Proofs.YtjeimihnoiephaaGreatDoor

namespace Go.Proofs.YtjeimihnoiephaaGreatDoor
open Go Go.RowKit
set_option linter.unusedVariables false
theorem vDot_as (a b:V3) (m:Rat) (e:dot3 a b = m) (w:World) (g:Gd w) (ha:VB 200 a) (hb:VB 200 b) (hm:QB 200 m):Calls Tryz.prog 37 #[.agg #[.string (qs a.x),.string (qs a.y),.string (qs a.z)],.agg #[.string (qs b.x),.string (qs b.y),.string (qs b.z)]] w (Ret w (.tuple #[.string (qs m),.int .i64 0])):=by
  subst e;exact vDot_ok a b w g ha hb hm
theorem vCross_as (a b c:V3) (e:cross3 a b = c) (w:World) (g:Gd w) (ha:VB 200 a) (hb:VB 200 b) (hc:VB 200 c):Calls Tryz.prog 38 #[.agg #[.string (qs a.x),.string (qs a.y),.string (qs a.z)],.agg #[.string (qs b.x),.string (qs b.y),.string (qs b.z)]] w (Ret w (.tuple #[.agg #[.string (qs c.x),.string (qs c.y),.string (qs c.z)],.int .i64 0])):=by
  subst e;exact vCross_ok a b w g ha hb hc
theorem cross3_vb {a b:V3} {k m:Nat} (ha:VB k a) (hb:VB m b):VB (k + m + (k + m) + 1) (cross3 a b):=⟨(ha.y.mul hb.z).sub (ha.z.mul hb.y),(ha.z.mul hb.x).sub (ha.x.mul hb.z),(ha.x.mul hb.y).sub (ha.y.mul hb.x)⟩
theorem prod4_in {a b:Q4} (ha:Q4S a) (hb:Q4S b):Q4In (prod4 a b):=by
  have p:∀ {x y:Int},(-20 ≤ x∧x ≤ 20) → (-20 ≤ y∧y ≤ 20) → -400 ≤ x * y∧x * y ≤ 400:=fun {x y} hx hy => by
    have h:(x * y).natAbs ≤ 20 * 20:=by rw [Int.natAbs_mul];exact Nat.mul_le_mul (by omega) (by omega)
    omega
  have pww:=p ha.w hb.w
  have pwx:=p ha.w hb.x
  have pwy:=p ha.w hb.y
  have pwz:=p ha.w hb.z
  have pxw:=p ha.x hb.w
  have pxx:=p ha.x hb.x
  have pxy:=p ha.x hb.y
  have pxz:=p ha.x hb.z
  have pyw:=p ha.y hb.w
  have pyx:=p ha.y hb.x
  have pyy:=p ha.y hb.y
  have pyz:=p ha.y hb.z
  have pzw:=p ha.z hb.w
  have pzx:=p ha.z hb.x
  have pzy:=p ha.z hb.y
  have pzz:=p ha.z hb.z
  unfold prod4
  exact ⟨by simp only;omega,by simp only;omega,by simp only;omega,by simp only;omega⟩
theorem rot_back {a p:Q4} {u P1:V3} (hz:¬ a.zero) (hp:prim4 (conj4 a) = p) (h:rot a u = P1):rot p P1 = u:=by
  rw [← hp,← h,rot_prim (conj4_nz hz)];exact rot_conj hz u
theorem rot_two {a b p:Q4} {u U1 O1:V3} (ha:¬ a.zero) (hb:¬ b.zero) (hp:prim4 (prod4 a b) = p) (hu:rot b u = U1) (ho:rot a U1 = O1):rot p u = O1:=by
  rw [← hp,rot_prim (prod4_nz ha hb),rot_prod ha hb,hu,ho]
theorem conj4_in {a:Q4} (h:Q4In a):Q4In (conj4 a):=⟨h.w,by have:=h.x;simp only [conj4];omega,by have:=h.y;simp only [conj4];omega,by have:=h.z;simp only [conj4];omega⟩

set_option maxRecDepth 100000 in
set_option maxHeartbeats 32000000 in
theorem laws17_walk (n0 n1 n2 n3:Int) (m0 m1 m2 m3:Int) (p q:Pla) (w:World) (g:Gd w) (hn0:-128 ≤ n0∧n0 ≤ 127) (hn1:-128 ≤ n1∧n1 ≤ 127) (hn2:-128 ≤ n2∧n2 ≤ 127) (hn3:-128 ≤ n3∧n3 ≤ 127) (hm0:-128 ≤ m0∧m0 ≤ 127) (hm1:-128 ≤ m1∧m1 ≤ 127) (hm2:-128 ≤ m2∧m2 ≤ 127) (hm3:-128 ≤ m3∧m3 ≤ 127) (hp:PlaOk p) (hq:PlaOk q):Calls Tryz.prog 8 #[.agg #[.int .i8 n0,.int .i8 n1,.int .i8 n2,.int .i8 n3,.int .i8 m0,.int .i8 m1,.int .i8 m2,.int .i8 m3],.agg #[.int .i16 p.n0,.int .u8 (p.d0:Int),.int .i16 p.n1,.int .u8 (p.d1:Int),.int .i16 p.n2,.int .u8 (p.d2:Int),.int .i16 q.n0,.int .u8 (q.d0:Int),.int .i16 q.n1,.int .u8 (q.d1:Int),.int .i16 q.n2,.int .u8 (q.d2:Int)]] w (Ret w (.bool true)):=by
  have Hp:=Lib.hid hp
  have Hq:=Lib.hid hq
  have HG:=Lib.hid g
  clear hp hq g
  have HaB:Hid ((-128 ≤ n0∧n0 ≤ 127)∧(-128 ≤ n1∧n1 ≤ 127)∧(-128 ≤ n2∧n2 ≤ 127)∧(-128 ≤ n3∧n3 ≤ 127)):=Lib.hid ⟨hn0,hn1,hn2,hn3⟩
  clear hn0 hn1 hn2 hn3
  obtain ⟨a,ea⟩:∃ a,mk4 n0 n1 n2 n3 = a:=⟨_,rfl⟩
  have HaE:=Lib.hid ea;have HaS:Hid (Q4S a):=Lib.hid (ea ▸ mk4_s n0 n1 n2 n3);have HaZ:Hid (¬ a.zero):=Lib.hid (ea ▸ mk4_nz n0 n1 n2 n3);clear ea
  have HaI:Hid (Q4In a):=Lib.hid HaS.out.inn;have HaQ:Hid (QErr a 0):=Lib.hid (.ok HaI.out HaZ.out)
  have HbB:Hid ((-128 ≤ m0∧m0 ≤ 127)∧(-128 ≤ m1∧m1 ≤ 127)∧(-128 ≤ m2∧m2 ≤ 127)∧(-128 ≤ m3∧m3 ≤ 127)):=Lib.hid ⟨hm0,hm1,hm2,hm3⟩
  clear hm0 hm1 hm2 hm3
  obtain ⟨b,eb⟩:∃ b,mk4 m0 m1 m2 m3 = b:=⟨_,rfl⟩
  have HbE:=Lib.hid eb;have HbS:Hid (Q4S b):=Lib.hid (eb ▸ mk4_s m0 m1 m2 m3);have HbZ:Hid (¬ b.zero):=Lib.hid (eb ▸ mk4_nz m0 m1 m2 m3);clear eb
  have HbI:Hid (Q4In b):=Lib.hid HbS.out.inn;have HbQ:Hid (QErr b 0):=Lib.hid (.ok HbI.out HbZ.out)
  obtain ⟨u,eu⟩:∃ u,pvec p = u:=⟨_,rfl⟩
  have HuE:=Lib.hid eu;have Hu:Hid (VB 5 u):=Lib.hid (eu ▸ Hp.out.v);clear eu
  obtain ⟨v,ev⟩:∃ v,pvec q = v:=⟨_,rfl⟩
  have HvE:=Lib.hid ev;have Hv:Hid (VB 5 v):=Lib.hid (ev ▸ Hq.out.v);clear ev
  obtain ⟨P1,eP1⟩:∃ x,rot a u = x:=⟨_,rfl⟩
  have HP1E:=Lib.hid eP1;have HP1:Hid (VB 31 P1):=Lib.hid (by rw [← eP1];exact rot_qbS HaS.out HaZ.out Hu.out);clear eP1
  obtain ⟨Q1,eQ1⟩:∃ x,rot a v = x:=⟨_,rfl⟩
  have HQ1E:=Lib.hid eQ1;have HQ1:Hid (VB 31 Q1):=Lib.hid (by rw [← eQ1];exact rot_qbS HaS.out HaZ.out Hv.out);clear eQ1
  obtain ⟨M9,eM9⟩:∃ x,dot3 u v = x:=⟨_,rfl⟩
  have HM9E:=Lib.hid eM9;have HM9:Hid (QB 200 M9):=Lib.hid (by rw [← eM9];exact (dot3_qb Hu.out Hv.out).mono (by decide));clear eM9
  obtain ⟨C1,eC1⟩:∃ x,cross3 u v = x:=⟨_,rfl⟩
  have HC1E:=Lib.hid eC1;have HC1:Hid (VB 21 C1):=Lib.hid (by rw [← eC1];exact cross3_vb Hu.out Hv.out);clear eC1
  obtain ⟨D1,eD1⟩:∃ x,rot a C1 = x:=⟨_,rfl⟩
  have HD1E:=Lib.hid eD1;have HD1:Hid (VB 79 D1):=Lib.hid (by rw [← eD1];exact rot_qbS HaS.out HaZ.out HC1.out);clear eD1
  obtain ⟨U1,eU1⟩:∃ x,rot b u = x:=⟨_,rfl⟩
  have HU1E:=Lib.hid eU1;have HU1:Hid (VB 31 U1):=Lib.hid (by rw [← eU1];exact rot_qbS HbS.out HbZ.out Hu.out);clear eU1
  obtain ⟨O1,eO1⟩:∃ x,rot a U1 = x:=⟨_,rfl⟩
  have HO1E:=Lib.hid eO1;have HO1:Hid (VB 109 O1):=Lib.hid (by rw [← eO1];exact rot_qbS HaS.out HaZ.out HU1.out);clear eO1
  obtain ⟨p9,ep9⟩:∃ x,prim4 (prod4 a b) = x:=⟨_,rfl⟩
  have Hp9E:=Lib.hid ep9;have Hp9:Hid (Q4In p9∧¬ p9.zero):=Lib.hid (by rw [← ep9];exact ⟨prim4_in (prod4_in HaS.out HbS.out),prim4_nz (prod4_nz HaZ.out HbZ.out)⟩);clear ep9
  obtain ⟨q9,eq9⟩:∃ x,prim4 (conj4 a) = x:=⟨_,rfl⟩
  have Hq9E:=Lib.hid eq9;have Hq9:Hid (Q4In q9∧¬ q9.zero):=Lib.hid (by rw [← eq9];exact ⟨prim4_in (conj4_in HaI.out),prim4_nz (conj4_nz HaZ.out)⟩);clear eq9
  have HM2:Hid (dot3 P1 Q1 = M9):=Lib.hid (by rw [← HP1E.out,← HQ1E.out,rot_dot HaZ.out];exact HM9E.out)
  have HD2:Hid (cross3 P1 Q1 = D1):=Lib.hid (by rw [← HP1E.out,← HQ1E.out,rot_cross HaZ.out,HC1E.out];exact HD1E.out)
  have HO2:Hid (rot p9 u = O1):=Lib.hid (rot_two HaZ.out HbZ.out Hp9E.out HU1E.out HO1E.out)
  have HR2:Hid (rot q9 P1 = u):=Lib.hid (rot_back HaZ.out Hq9E.out HP1E.out)
  have Hp9Q:Hid (QErr p9 0):=Lib.hid (.ok Hp9.out.1 Hp9.out.2)
  go_enter Tryz.func8,Tryz.ntmps8
  go_wp2_with fail
  refine (known17_c _ (HG.out.ext (((Ext.refl w).alloc _).alloc _))).mono ?_;rintro e w1 ⟨rfl,e1⟩
  have HX1:Hid (Ext w w1):=Lib.hid ((((Ext.refl w).alloc _).alloc _).trans e1)
  have HB0_1:Hid (Blk w1 (w.heap.size) #[.int .i8 n0,.int .i8 n1,.int .i8 n2,.int .i8 n3,.int .i8 m0,.int .i8 m1,.int .i8 m2,.int .i8 m3] 76):=Lib.hid (Blk.ext ((Blk.new' (w:=_) (cs:=#[.int .i8 n0,.int .i8 n1,.int .i8 n2,.int .i8 n3,.int .i8 m0,.int .i8 m1,.int .i8 m2,.int .i8 m3]) (t:=76) (by first | rfl | (simp only [World.size_alloc];done) | (simp only [World.size_alloc];omega) | simp)).alloc _) e1)
  have HB1_1:Hid (Blk w1 (w.heap.size + 1) #[.int .i16 p.n0,.int .u8 (p.d0:Int),.int .i16 p.n1,.int .u8 (p.d1:Int),.int .i16 p.n2,.int .u8 (p.d2:Int),.int .i16 q.n0,.int .u8 (q.d0:Int),.int .i16 q.n1,.int .u8 (q.d1:Int),.int .i16 q.n2,.int .u8 (q.d2:Int)] 56):=Lib.hid (Blk.ext (Blk.new' (w:=_) (cs:=#[.int .i16 p.n0,.int .u8 (p.d0:Int),.int .i16 p.n1,.int .u8 (p.d1:Int),.int .i16 p.n2,.int .u8 (p.d2:Int),.int .i16 q.n0,.int .u8 (q.d0:Int),.int .i16 q.n1,.int .u8 (q.d1:Int),.int .i16 q.n2,.int .u8 (q.d2:Int)]) (t:=56) (by first | rfl | (simp only [World.size_alloc];done) | (simp only [World.size_alloc];omega) | simp)) e1)
  have HGEB0:Hid (w.heap.size ≤ w.heap.size):=Lib.hid (by first | omega | (simp only [];omega) | (simp;omega))
  have HGEB1:Hid (w.heap.size ≤ w.heap.size + 1):=Lib.hid (by first | omega | (simp only [];omega) | (simp;omega))
  clear e1
  go_wp2_with fail
  refine wp_name (fun W => Ext w W∧Blk W (w.heap.size) #[.int .i8 n0,.int .i8 n1,.int .i8 n2,.int .i8 n3,.int .i8 m0,.int .i8 m1,.int .i8 m2,.int .i8 m3] 76∧Blk W (w.heap.size + 1) #[.int .i16 p.n0,.int .u8 (p.d0:Int),.int .i16 p.n1,.int .u8 (p.d1:Int),.int .i16 p.n2,.int .u8 (p.d2:Int),.int .i16 q.n0,.int .u8 (q.d0:Int),.int .i16 q.n1,.int .u8 (q.d1:Int),.int .i16 q.n2,.int .u8 (q.d2:Int)] 56) ⟨HX1.out,HB0_1.out,HB1_1.out⟩ ?_
  rintro w2 ⟨e2,bB0_2,bB1_2⟩
  have HX2:=Lib.hid e2;have HB0_2:=Lib.hid bB0_2;have HB1_2:=Lib.hid bB1_2
  clear e2 bB0_2 bB1_2
  refine region_lin [.val (.pointer (some ⟨w.heap.size,0,none⟩)),.val (.agg #[.int .i8 n0,.int .i8 n1,.int .i8 n2,.int .i8 n3]),.val (.agg #[.int .i64 a.w,.int .i64 a.x,.int .i64 a.y,.int .i64 a.z]),.val (.pointer (some ⟨w.heap.size,4,none⟩)),.val (.agg #[.int .i8 m0,.int .i8 m1,.int .i8 m2,.int .i8 m3]),.val (.agg #[.int .i64 b.w,.int .i64 b.x,.int .i64 b.y,.int .i64 b.z]),.mem (fun b_ => .pointer (some ⟨b_,0,none⟩)) #[.int .i64 0,.int .i64 0,.int .i64 0,.int .i64 0] 22 (Option.some 8),.mem (fun b_ => .pointer (some ⟨b_,0,none⟩)) #[.int .i64 0,.int .i64 0,.int .i64 0,.int .i64 0] 22 (Option.some 9),.put 6 #[.int .i64 a.w,.int .i64 a.x,.int .i64 a.y,.int .i64 a.z],.put 7 #[.int .i64 b.w,.int .i64 b.x,.int .i64 b.y,.int .i64 b.z]] (by kernel_rfl) (by kernel_rfl) (by kernel_rfl) ?_ (fun g2 w3 hx_ hm_ hne_ => ?_)
  · skip
    refine RnL.cons (fun g2 A_ W_ hs_ => ?_) ?_
    · have q2_:=(hs_.old 2 (by kernel_rfl):A_.tmps[2]?.getD undef = .pointer (some ⟨w.heap.size,0,none⟩))
      refine Rn.val fun K_ hK_ => ?_
      go_simp
      exact hK_.out _ (Ext.refl _)
    refine RnL.cons (fun g2 A_ W_ hs_ => ?_) ?_
    · have q30_:=hs_.val 0 rfl rfl rfl
      have cB0_0:=((HB0_2.out.drew.ext hs_.1)).cell 0 rfl
      have cB0_1:=((HB0_2.out.drew.ext hs_.1)).cell 1 rfl
      have cB0_2:=((HB0_2.out.drew.ext hs_.1)).cell 2 rfl
      have cB0_3:=((HB0_2.out.drew.ext hs_.1)).cell 3 rfl
      refine Rn.val fun K_ hK_ => ?_
      go_simp
      exact hK_.out _ (Ext.refl _)
    refine RnL.cons (fun g2 A_ W_ hs_ => ?_) ?_
    · have q31_:=hs_.val 1 rfl rfl rfl
      refine Rn.val fun K_ hK_ => ?_
      go_simp
      refine (mk4_c n0 n1 n2 n3 a _ (HG.out.ext (HX2.out.drew.trans hs_.1)) HaB.out.1 HaB.out.2.1 HaB.out.2.2.1 HaB.out.2.2.2 HaE.out).mono ?_;rintro e W9_ ⟨rfl,e9_⟩;exact hK_.out _ e9_
    refine RnL.cons (fun g2 A_ W_ hs_ => ?_) ?_
    · have q2_:=(hs_.old 2 (by kernel_rfl):A_.tmps[2]?.getD undef = .pointer (some ⟨w.heap.size,0,none⟩))
      refine Rn.val fun K_ hK_ => ?_
      go_simp
      exact hK_.out _ (Ext.refl _)
    refine RnL.cons (fun g2 A_ W_ hs_ => ?_) ?_
    · have q33_:=hs_.val 3 rfl rfl rfl
      have cB0_4:=((HB0_2.out.drew.ext hs_.1)).cell 4 rfl
      have cB0_5:=((HB0_2.out.drew.ext hs_.1)).cell 5 rfl
      have cB0_6:=((HB0_2.out.drew.ext hs_.1)).cell 6 rfl
      have cB0_7:=((HB0_2.out.drew.ext hs_.1)).cell 7 rfl
      refine Rn.val fun K_ hK_ => ?_
      go_simp
      exact hK_.out _ (Ext.refl _)
    refine RnL.cons (fun g2 A_ W_ hs_ => ?_) ?_
    · have q34_:=hs_.val 4 rfl rfl rfl
      refine Rn.val fun K_ hK_ => ?_
      go_simp
      refine (mk4_c m0 m1 m2 m3 b _ (HG.out.ext (HX2.out.drew.trans hs_.1)) HbB.out.1 HbB.out.2.1 HbB.out.2.2.1 HbB.out.2.2.2 HbE.out).mono ?_;rintro e W9_ ⟨rfl,e9_⟩;exact hK_.out _ e9_
    refine RnL.cons (fun g2 A_ W_ hs_ => ?_) ?_
    · refine Rn.mem fun K_ hK_ => ?_
      go_simp
      exact hK_.out
    refine RnL.cons (fun g2 A_ W_ hs_ => ?_) ?_
    · refine Rn.mem fun K_ hK_ => ?_
      go_simp
      exact hK_.out
    refine RnL.cons (fun g2 A_ W_ hs_ => ?_) ?_
    · have q5_:=(hs_.mem 6 rfl rfl rfl).1
      have q32_:=hs_.val 2 rfl rfl rfl
      refine Rn.put (z:=#[.int .i64 0,.int .i64 0,.int .i64 0,.int .i64 0]) (t:=22) rfl fun hB K_ hK_ => ?_
      have c_0:=hB.cell 0 rfl;have f_0:=hB.free 0
      have c_1:=hB.cell 1 rfl;have f_1:=hB.free 1
      have c_2:=hB.cell 2 rfl;have f_2:=hB.free 2
      have c_3:=hB.cell 3 rfl;have f_3:=hB.free 3
      have HB:=Lib.hid hB;clear hB
      go_simp
      exact hK_.out _ (((((Only.refl _ _).set 0 _).set 1 _).set 2 _).set 3 _) ((((HB.out.set 0 _).set 1 _).set 2 _).set 3 _)
    refine RnL.cons (fun g2 A_ W_ hs_ => ?_) ?_
    · have q6_:=(hs_.mem 7 rfl rfl rfl).1
      have q35_:=hs_.val 5 rfl rfl rfl
      refine Rn.put (z:=#[.int .i64 0,.int .i64 0,.int .i64 0,.int .i64 0]) (t:=22) rfl fun hB K_ hK_ => ?_
      have c_0:=hB.cell 0 rfl;have f_0:=hB.free 0
      have c_1:=hB.cell 1 rfl;have f_1:=hB.free 1
      have c_2:=hB.cell 2 rfl;have f_2:=hB.free 2
      have c_3:=hB.cell 3 rfl;have f_3:=hB.free 3
      have HB:=Lib.hid hB;clear hB
      go_simp
      exact hK_.out _ (((((Only.refl _ _).set 0 _).set 1 _).set 2 _).set 3 _) ((((HB.out.set 0 _).set 1 _).set 2 _).set 3 _)
    exact RnL.nil
  simp only [fs,Kd.value,puts,Act.put,List.setIfInBounds_toArray,List.set_cons_zero,List.set_cons_succ,Nat.reduceAdd]
  have HX3:Hid (Ext w w3):=Lib.hid (HX2.out.drew.trans hx_)
  have HB1_3:=Lib.hid (HB1_2.out.drew.ext hx_)
  have HB2_3:Hid (Blk w3 (g2 6) #[.int .i64 a.w,.int .i64 a.x,.int .i64 a.y,.int .i64 a.z] 22):=Lib.hid (hm_ 6 _ _ _ _ rfl).2;have HGEB2:Hid (w.heap.size ≤ g2 6):=Lib.hid (Nat.le_trans HX2.out.size (hm_ 6 _ _ _ _ rfl).1)
  have HB3_3:Hid (Blk w3 (g2 7) #[.int .i64 b.w,.int .i64 b.x,.int .i64 b.y,.int .i64 b.z] 22):=Lib.hid (hm_ 7 _ _ _ _ rfl).2;have HGEB3:Hid (w.heap.size ≤ g2 7):=Lib.hid (Nat.le_trans HX2.out.size (hm_ 7 _ _ _ _ rfl).1)
  have HNEB1B2:Hid (w.heap.size + 1 ≠ g2 6):=Lib.hid (Nat.ne_of_lt (Nat.lt_of_lt_of_le HB1_2.out.lt (hm_ 6 _ _ _ _ rfl).1))
  have HNEB1B3:Hid (w.heap.size + 1 ≠ g2 7):=Lib.hid (Nat.ne_of_lt (Nat.lt_of_lt_of_le HB1_2.out.lt (hm_ 7 _ _ _ _ rfl).1))
  have HNEB2B3:Hid (g2 6 ≠ g2 7):=Lib.hid (hne_ 6 7 (by decide) ⟨_,_,_,_,rfl⟩ ⟨_,_,_,_,rfl⟩)
  clear hx_ hm_ hne_
  generalize g2 6 = i2 at *
  generalize g2 7 = i3 at *
  clear g2
  go_wp2_with fail
  refine wp_name (fun W => Ext w W∧Blk W (w.heap.size + 1) #[.int .i16 p.n0,.int .u8 (p.d0:Int),.int .i16 p.n1,.int .u8 (p.d1:Int),.int .i16 p.n2,.int .u8 (p.d2:Int),.int .i16 q.n0,.int .u8 (q.d0:Int),.int .i16 q.n1,.int .u8 (q.d1:Int),.int .i16 q.n2,.int .u8 (q.d2:Int)] 56∧Blk W (i2) #[.int .i64 a.w,.int .i64 a.x,.int .i64 a.y,.int .i64 a.z] 22∧Blk W (i3) #[.int .i64 b.w,.int .i64 b.x,.int .i64 b.y,.int .i64 b.z] 22) ⟨HX3.out,HB1_3.out,HB2_3.out,HB3_3.out⟩ ?_
  rintro w4 ⟨e4,bB1_4,bB2_4,bB3_4⟩
  have HX4:=Lib.hid e4;have HB1_4:=Lib.hid bB1_4;have HB2_4:=Lib.hid bB2_4;have HB3_4:=Lib.hid bB3_4
  clear e4 bB1_4 bB2_4 bB3_4
  refine region_lin [.val (.pointer (some ⟨w.heap.size + 1,0,none⟩)),.val (.agg #[.int .i16 p.n0,.int .u8 (p.d0:Int),.int .i16 p.n1,.int .u8 (p.d1:Int),.int .i16 p.n2,.int .u8 (p.d2:Int)]),.val (.agg #[.string (qs u.x),.string (qs u.y),.string (qs u.z)]),.val (.pointer (some ⟨w.heap.size + 1,6,none⟩)),.val (.agg #[.int .i16 q.n0,.int .u8 (q.d0:Int),.int .i16 q.n1,.int .u8 (q.d1:Int),.int .i16 q.n2,.int .u8 (q.d2:Int)]),.val (.agg #[.string (qs v.x),.string (qs v.y),.string (qs v.z)]),.mem (fun b_ => .pointer (some ⟨b_,0,none⟩)) #[.string ⟨#[]⟩,.string ⟨#[]⟩,.string ⟨#[]⟩] 31 (Option.some 8),.mem (fun b_ => .pointer (some ⟨b_,0,none⟩)) #[.string ⟨#[]⟩,.string ⟨#[]⟩,.string ⟨#[]⟩] 31 (Option.some 9),.put 6 #[.string (qs u.x),.string (qs u.y),.string (qs u.z)],.put 7 #[.string (qs v.x),.string (qs v.y),.string (qs v.z)]] (by kernel_rfl) (by kernel_rfl) (by kernel_rfl) ?_ (fun g4 w5 hx_ hm_ hne_ => ?_)
  · skip
    refine RnL.cons (fun g4 A_ W_ hs_ => ?_) ?_
    · have q3_:=(hs_.old 3 (by kernel_rfl):A_.tmps[3]?.getD undef = .pointer (some ⟨w.heap.size + 1,0,none⟩))
      refine Rn.val fun K_ hK_ => ?_
      go_simp
      exact hK_.out _ (Ext.refl _)
    refine RnL.cons (fun g4 A_ W_ hs_ => ?_) ?_
    · have q36_:=hs_.val 0 rfl rfl rfl
      have cB1_0:=((HB1_4.out.drew.ext hs_.1)).cell 0 rfl
      have cB1_1:=((HB1_4.out.drew.ext hs_.1)).cell 1 rfl
      have cB1_2:=((HB1_4.out.drew.ext hs_.1)).cell 2 rfl
      have cB1_3:=((HB1_4.out.drew.ext hs_.1)).cell 3 rfl
      have cB1_4:=((HB1_4.out.drew.ext hs_.1)).cell 4 rfl
      have cB1_5:=((HB1_4.out.drew.ext hs_.1)).cell 5 rfl
      refine Rn.val fun K_ hK_ => ?_
      go_simp
      exact hK_.out _ (Ext.refl _)
    refine RnL.cons (fun g4 A_ W_ hs_ => ?_) ?_
    · have q37_:=hs_.val 1 rfl rfl rfl
      refine Rn.val fun K_ hK_ => ?_
      go_simp
      refine ((HuE.out ▸ make_c p _ (HG.out.ext (HX4.out.drew.trans hs_.1)) Hp.out)).mono ?_;rintro e W9_ ⟨rfl,e9_⟩;exact hK_.out _ e9_
    refine RnL.cons (fun g4 A_ W_ hs_ => ?_) ?_
    · have q3_:=(hs_.old 3 (by kernel_rfl):A_.tmps[3]?.getD undef = .pointer (some ⟨w.heap.size + 1,0,none⟩))
      refine Rn.val fun K_ hK_ => ?_
      go_simp
      exact hK_.out _ (Ext.refl _)
    refine RnL.cons (fun g4 A_ W_ hs_ => ?_) ?_
    · have q39_:=hs_.val 3 rfl rfl rfl
      have cB1_6:=((HB1_4.out.drew.ext hs_.1)).cell 6 rfl
      have cB1_7:=((HB1_4.out.drew.ext hs_.1)).cell 7 rfl
      have cB1_8:=((HB1_4.out.drew.ext hs_.1)).cell 8 rfl
      have cB1_9:=((HB1_4.out.drew.ext hs_.1)).cell 9 rfl
      have cB1_10:=((HB1_4.out.drew.ext hs_.1)).cell 10 rfl
      have cB1_11:=((HB1_4.out.drew.ext hs_.1)).cell 11 rfl
      refine Rn.val fun K_ hK_ => ?_
      go_simp
      exact hK_.out _ (Ext.refl _)
    refine RnL.cons (fun g4 A_ W_ hs_ => ?_) ?_
    · have q40_:=hs_.val 4 rfl rfl rfl
      refine Rn.val fun K_ hK_ => ?_
      go_simp
      refine ((HvE.out ▸ make_c q _ (HG.out.ext (HX4.out.drew.trans hs_.1)) Hq.out)).mono ?_;rintro e W9_ ⟨rfl,e9_⟩;exact hK_.out _ e9_
    refine RnL.cons (fun g4 A_ W_ hs_ => ?_) ?_
    · refine Rn.mem fun K_ hK_ => ?_
      go_simp
      exact hK_.out
    refine RnL.cons (fun g4 A_ W_ hs_ => ?_) ?_
    · refine Rn.mem fun K_ hK_ => ?_
      go_simp
      exact hK_.out
    refine RnL.cons (fun g4 A_ W_ hs_ => ?_) ?_
    · have q7_:=(hs_.mem 6 rfl rfl rfl).1
      have q38_:=hs_.val 2 rfl rfl rfl
      refine Rn.put (z:=#[.string ⟨#[]⟩,.string ⟨#[]⟩,.string ⟨#[]⟩]) (t:=31) rfl fun hB K_ hK_ => ?_
      have c_0:=hB.cell 0 rfl;have f_0:=hB.free 0
      have c_1:=hB.cell 1 rfl;have f_1:=hB.free 1
      have c_2:=hB.cell 2 rfl;have f_2:=hB.free 2
      have HB:=Lib.hid hB;clear hB
      go_simp
      exact hK_.out _ ((((Only.refl _ _).set 0 _).set 1 _).set 2 _) (((HB.out.set 0 _).set 1 _).set 2 _)
    refine RnL.cons (fun g4 A_ W_ hs_ => ?_) ?_
    · have q8_:=(hs_.mem 7 rfl rfl rfl).1
      have q41_:=hs_.val 5 rfl rfl rfl
      refine Rn.put (z:=#[.string ⟨#[]⟩,.string ⟨#[]⟩,.string ⟨#[]⟩]) (t:=31) rfl fun hB K_ hK_ => ?_
      have c_0:=hB.cell 0 rfl;have f_0:=hB.free 0
      have c_1:=hB.cell 1 rfl;have f_1:=hB.free 1
      have c_2:=hB.cell 2 rfl;have f_2:=hB.free 2
      have HB:=Lib.hid hB;clear hB
      go_simp
      exact hK_.out _ ((((Only.refl _ _).set 0 _).set 1 _).set 2 _) (((HB.out.set 0 _).set 1 _).set 2 _)
    exact RnL.nil
  simp only [fs,Kd.value,puts,Act.put,List.setIfInBounds_toArray,List.set_cons_zero,List.set_cons_succ,Nat.reduceAdd]
  have HX5:Hid (Ext w w5):=Lib.hid (HX4.out.drew.trans hx_)
  have HB2_5:=Lib.hid (HB2_4.out.drew.ext hx_)
  have HB3_5:=Lib.hid (HB3_4.out.drew.ext hx_)
  have HB4_5:Hid (Blk w5 (g4 6) #[.string (qs u.x),.string (qs u.y),.string (qs u.z)] 31):=Lib.hid (hm_ 6 _ _ _ _ rfl).2;have HGEB4:Hid (w.heap.size ≤ g4 6):=Lib.hid (Nat.le_trans HX4.out.size (hm_ 6 _ _ _ _ rfl).1)
  have HB5_5:Hid (Blk w5 (g4 7) #[.string (qs v.x),.string (qs v.y),.string (qs v.z)] 31):=Lib.hid (hm_ 7 _ _ _ _ rfl).2;have HGEB5:Hid (w.heap.size ≤ g4 7):=Lib.hid (Nat.le_trans HX4.out.size (hm_ 7 _ _ _ _ rfl).1)
  have HNEB2B4:Hid (i2 ≠ g4 6):=Lib.hid (Nat.ne_of_lt (Nat.lt_of_lt_of_le HB2_4.out.lt (hm_ 6 _ _ _ _ rfl).1))
  have HNEB2B5:Hid (i2 ≠ g4 7):=Lib.hid (Nat.ne_of_lt (Nat.lt_of_lt_of_le HB2_4.out.lt (hm_ 7 _ _ _ _ rfl).1))
  have HNEB3B4:Hid (i3 ≠ g4 6):=Lib.hid (Nat.ne_of_lt (Nat.lt_of_lt_of_le HB3_4.out.lt (hm_ 6 _ _ _ _ rfl).1))
  have HNEB3B5:Hid (i3 ≠ g4 7):=Lib.hid (Nat.ne_of_lt (Nat.lt_of_lt_of_le HB3_4.out.lt (hm_ 7 _ _ _ _ rfl).1))
  have HNEB4B5:Hid (g4 6 ≠ g4 7):=Lib.hid (hne_ 6 7 (by decide) ⟨_,_,_,_,rfl⟩ ⟨_,_,_,_,rfl⟩)
  clear hx_ hm_ hne_
  generalize g4 6 = i4 at *
  generalize g4 7 = i5 at *
  clear g4
  have c2_0:=HB2_5.out.cell 0 rfl
  have c2_1:=HB2_5.out.cell 1 rfl
  have c2_2:=HB2_5.out.cell 2 rfl
  have c2_3:=HB2_5.out.cell 3 rfl
  have c4_0:=HB4_5.out.cell 0 rfl
  have c4_1:=HB4_5.out.cell 1 rfl
  have c4_2:=HB4_5.out.cell 2 rfl
  go_wp2_with fail
  refine (rapply_as a u P1 HP1E.out _ (HG.out.ext HX5.out) HaI.out HaZ.out Hu.out (by decide)).mono ?_;rintro e w6 ⟨rfl,e6⟩
  have HX6:Hid (Ext w w6):=Lib.hid (HX5.out.trans e6)
  have HB2_6:=Lib.hid (Blk.ext HB2_5.out e6)
  have HB3_6:=Lib.hid (Blk.ext HB3_5.out e6)
  have HB4_6:=Lib.hid (Blk.ext HB4_5.out e6)
  have HB5_6:=Lib.hid (Blk.ext HB5_5.out e6)
  clear e6 c2_0 c2_1 c2_2 c2_3 c4_0 c4_1 c4_2
  go_upto_region 6 with fail
  refine wp_name (fun W => Ext w W∧Blk W (i2) #[.int .i64 a.w,.int .i64 a.x,.int .i64 a.y,.int .i64 a.z] 22∧Blk W (i3) #[.int .i64 b.w,.int .i64 b.x,.int .i64 b.y,.int .i64 b.z] 22∧Blk W (i4) #[.string (qs u.x),.string (qs u.y),.string (qs u.z)] 31∧Blk W (i5) #[.string (qs v.x),.string (qs v.y),.string (qs v.z)] 31∧Blk W (w6.heap.size) #[.string (qs P1.x),.string (qs P1.y),.string (qs P1.z)] 31) ⟨(HX6.out.alloc _),(HB2_6.out.alloc _),(HB3_6.out.alloc _),(HB4_6.out.alloc _),(HB5_6.out.alloc _),(Blk.new' (w:=_) (cs:=#[.string (qs P1.x),.string (qs P1.y),.string (qs P1.z)]) (t:=31) (by first | rfl | (simp only [World.size_alloc];done) | (simp only [World.size_alloc];omega) | simp))⟩ ?_
  rintro w7 ⟨e7,bB2_7,bB3_7,bB4_7,bB5_7,bB6_7⟩
  have HX7:=Lib.hid e7;have HB2_7:=Lib.hid bB2_7;have HB3_7:=Lib.hid bB3_7;have HB4_7:=Lib.hid bB4_7;have HB5_7:=Lib.hid bB5_7;have HB6_7:=Lib.hid bB6_7
  have HGEB6:Hid (w.heap.size ≤ w6.heap.size):=Lib.hid (by have:=HX6.out.size;first | omega | (simp only [];omega) | (simp;omega))
  clear e7 bB2_7 bB3_7 bB4_7 bB5_7 bB6_7
  have c2_0:=HB2_7.out.cell 0 rfl
  have c2_1:=HB2_7.out.cell 1 rfl
  have c2_2:=HB2_7.out.cell 2 rfl
  have c2_3:=HB2_7.out.cell 3 rfl
  have c5_0:=HB5_7.out.cell 0 rfl
  have c5_1:=HB5_7.out.cell 1 rfl
  have c5_2:=HB5_7.out.cell 2 rfl
  go_wp2_with fail
  refine (rapply_as a v Q1 HQ1E.out _ (HG.out.ext HX7.out) HaI.out HaZ.out Hv.out (by decide)).mono ?_;rintro e w8 ⟨rfl,e8⟩
  have HX8:Hid (Ext w w8):=Lib.hid (HX7.out.trans e8)
  have HB2_8:=Lib.hid (Blk.ext HB2_7.out e8)
  have HB3_8:=Lib.hid (Blk.ext HB3_7.out e8)
  have HB4_8:=Lib.hid (Blk.ext HB4_7.out e8)
  have HB5_8:=Lib.hid (Blk.ext HB5_7.out e8)
  have HB6_8:=Lib.hid (Blk.ext HB6_7.out e8)
  clear e8 c2_0 c2_1 c2_2 c2_3 c5_0 c5_1 c5_2
  go_upto_region 7 with fail
  refine wp_name (fun W => Ext w W∧Blk W (i2) #[.int .i64 a.w,.int .i64 a.x,.int .i64 a.y,.int .i64 a.z] 22∧Blk W (i3) #[.int .i64 b.w,.int .i64 b.x,.int .i64 b.y,.int .i64 b.z] 22∧Blk W (i4) #[.string (qs u.x),.string (qs u.y),.string (qs u.z)] 31∧Blk W (i5) #[.string (qs v.x),.string (qs v.y),.string (qs v.z)] 31∧Blk W (w6.heap.size) #[.string (qs P1.x),.string (qs P1.y),.string (qs P1.z)] 31∧Blk W (w8.heap.size) #[.string (qs Q1.x),.string (qs Q1.y),.string (qs Q1.z)] 31) ⟨(HX8.out.alloc _),(HB2_8.out.alloc _),(HB3_8.out.alloc _),(HB4_8.out.alloc _),(HB5_8.out.alloc _),(HB6_8.out.alloc _),(Blk.new' (w:=_) (cs:=#[.string (qs Q1.x),.string (qs Q1.y),.string (qs Q1.z)]) (t:=31) (by first | rfl | (simp only [World.size_alloc];done) | (simp only [World.size_alloc];omega) | simp))⟩ ?_
  rintro w9 ⟨e9,bB2_9,bB3_9,bB4_9,bB5_9,bB6_9,bB7_9⟩
  have HX9:=Lib.hid e9;have HB2_9:=Lib.hid bB2_9;have HB3_9:=Lib.hid bB3_9;have HB4_9:=Lib.hid bB4_9;have HB5_9:=Lib.hid bB5_9;have HB6_9:=Lib.hid bB6_9;have HB7_9:=Lib.hid bB7_9
  have HGEB7:Hid (w.heap.size ≤ w8.heap.size):=Lib.hid (by have:=HX8.out.size;first | omega | (simp only [];omega) | (simp;omega))
  clear e9 bB2_9 bB3_9 bB4_9 bB5_9 bB6_9 bB7_9
  have c4_0:=HB4_9.out.cell 0 rfl
  have c4_1:=HB4_9.out.cell 1 rfl
  have c4_2:=HB4_9.out.cell 2 rfl
  have c5_0:=HB5_9.out.cell 0 rfl
  have c5_1:=HB5_9.out.cell 1 rfl
  have c5_2:=HB5_9.out.cell 2 rfl
  go_wp2_with fail
  refine (vDot_as u v M9 HM9E.out _ (HG.out.ext HX9.out) (Hu.out.mono (by decide)) (Hv.out.mono (by decide)) HM9.out).mono ?_;rintro e w10 ⟨rfl,e10⟩
  have HX10:Hid (Ext w w10):=Lib.hid (HX9.out.trans e10)
  have HB2_10:=Lib.hid (Blk.ext HB2_9.out e10)
  have HB3_10:=Lib.hid (Blk.ext HB3_9.out e10)
  have HB4_10:=Lib.hid (Blk.ext HB4_9.out e10)
  have HB5_10:=Lib.hid (Blk.ext HB5_9.out e10)
  have HB6_10:=Lib.hid (Blk.ext HB6_9.out e10)
  have HB7_10:=Lib.hid (Blk.ext HB7_9.out e10)
  clear e10 c4_0 c4_1 c4_2 c5_0 c5_1 c5_2
  have c6_0:=HB6_10.out.cell 0 rfl
  have c6_1:=HB6_10.out.cell 1 rfl
  have c6_2:=HB6_10.out.cell 2 rfl
  have c7_0:=HB7_10.out.cell 0 rfl
  have c7_1:=HB7_10.out.cell 1 rfl
  have c7_2:=HB7_10.out.cell 2 rfl
  go_wp2_with fail
  refine (vDot_as P1 Q1 M9 HM2.out _ (HG.out.ext HX10.out) (HP1.out.mono (by decide)) (HQ1.out.mono (by decide)) HM9.out).mono ?_;rintro e w11 ⟨rfl,e11⟩
  have HX11:Hid (Ext w w11):=Lib.hid (HX10.out.trans e11)
  have HB2_11:=Lib.hid (Blk.ext HB2_10.out e11)
  have HB3_11:=Lib.hid (Blk.ext HB3_10.out e11)
  have HB4_11:=Lib.hid (Blk.ext HB4_10.out e11)
  have HB5_11:=Lib.hid (Blk.ext HB5_10.out e11)
  have HB6_11:=Lib.hid (Blk.ext HB6_10.out e11)
  have HB7_11:=Lib.hid (Blk.ext HB7_10.out e11)
  clear e11 c6_0 c6_1 c6_2 c7_0 c7_1 c7_2
  have c4_0:=HB4_11.out.cell 0 rfl
  have c4_1:=HB4_11.out.cell 1 rfl
  have c4_2:=HB4_11.out.cell 2 rfl
  have c5_0:=HB5_11.out.cell 0 rfl
  have c5_1:=HB5_11.out.cell 1 rfl
  have c5_2:=HB5_11.out.cell 2 rfl
  go_wp2_with fail
  refine (vCross_as u v C1 HC1E.out _ (HG.out.ext HX11.out) (Hu.out.mono (by decide)) (Hv.out.mono (by decide)) (HC1.out.mono (by decide))).mono ?_;rintro e w12 ⟨rfl,e12⟩
  have HX12:Hid (Ext w w12):=Lib.hid (HX11.out.trans e12)
  have HB2_12:=Lib.hid (Blk.ext HB2_11.out e12)
  have HB3_12:=Lib.hid (Blk.ext HB3_11.out e12)
  have HB4_12:=Lib.hid (Blk.ext HB4_11.out e12)
  have HB6_12:=Lib.hid (Blk.ext HB6_11.out e12)
  have HB7_12:=Lib.hid (Blk.ext HB7_11.out e12)
  clear e12 c4_0 c4_1 c4_2 c5_0 c5_1 c5_2
  go_upto_region 10 with fail
  refine wp_name (fun W => Ext w W∧Blk W (i2) #[.int .i64 a.w,.int .i64 a.x,.int .i64 a.y,.int .i64 a.z] 22∧Blk W (i3) #[.int .i64 b.w,.int .i64 b.x,.int .i64 b.y,.int .i64 b.z] 22∧Blk W (i4) #[.string (qs u.x),.string (qs u.y),.string (qs u.z)] 31∧Blk W (w6.heap.size) #[.string (qs P1.x),.string (qs P1.y),.string (qs P1.z)] 31∧Blk W (w8.heap.size) #[.string (qs Q1.x),.string (qs Q1.y),.string (qs Q1.z)] 31∧Blk W (w12.heap.size) #[.string (qs C1.x),.string (qs C1.y),.string (qs C1.z)] 31) ⟨(HX12.out.alloc _),(HB2_12.out.alloc _),(HB3_12.out.alloc _),(HB4_12.out.alloc _),(HB6_12.out.alloc _),(HB7_12.out.alloc _),(Blk.new' (w:=_) (cs:=#[.string (qs C1.x),.string (qs C1.y),.string (qs C1.z)]) (t:=31) (by first | rfl | (simp only [World.size_alloc];done) | (simp only [World.size_alloc];omega) | simp))⟩ ?_
  rintro w13 ⟨e13,bB2_13,bB3_13,bB4_13,bB6_13,bB7_13,bB8_13⟩
  have HX13:=Lib.hid e13;have HB2_13:=Lib.hid bB2_13;have HB3_13:=Lib.hid bB3_13;have HB4_13:=Lib.hid bB4_13;have HB6_13:=Lib.hid bB6_13;have HB7_13:=Lib.hid bB7_13;have HB8_13:=Lib.hid bB8_13
  have HGEB8:Hid (w.heap.size ≤ w12.heap.size):=Lib.hid (by have:=HX12.out.size;first | omega | (simp only [];omega) | (simp;omega))
  clear e13 bB2_13 bB3_13 bB4_13 bB6_13 bB7_13 bB8_13
  have c2_0:=HB2_13.out.cell 0 rfl
  have c2_1:=HB2_13.out.cell 1 rfl
  have c2_2:=HB2_13.out.cell 2 rfl
  have c2_3:=HB2_13.out.cell 3 rfl
  have c8_0:=HB8_13.out.cell 0 rfl
  have c8_1:=HB8_13.out.cell 1 rfl
  have c8_2:=HB8_13.out.cell 2 rfl
  go_wp2_with fail
  refine (rapply_as a C1 D1 HD1E.out _ (HG.out.ext HX13.out) HaI.out HaZ.out HC1.out (by decide)).mono ?_;rintro e w14 ⟨rfl,e14⟩
  have HX14:Hid (Ext w w14):=Lib.hid (HX13.out.trans e14)
  have HB2_14:=Lib.hid (Blk.ext HB2_13.out e14)
  have HB3_14:=Lib.hid (Blk.ext HB3_13.out e14)
  have HB4_14:=Lib.hid (Blk.ext HB4_13.out e14)
  have HB6_14:=Lib.hid (Blk.ext HB6_13.out e14)
  have HB7_14:=Lib.hid (Blk.ext HB7_13.out e14)
  clear e14 c2_0 c2_1 c2_2 c2_3 c8_0 c8_1 c8_2
  go_upto_region 11 with fail
  refine wp_name (fun W => Ext w W∧Blk W (i2) #[.int .i64 a.w,.int .i64 a.x,.int .i64 a.y,.int .i64 a.z] 22∧Blk W (i3) #[.int .i64 b.w,.int .i64 b.x,.int .i64 b.y,.int .i64 b.z] 22∧Blk W (i4) #[.string (qs u.x),.string (qs u.y),.string (qs u.z)] 31∧Blk W (w6.heap.size) #[.string (qs P1.x),.string (qs P1.y),.string (qs P1.z)] 31∧Blk W (w8.heap.size) #[.string (qs Q1.x),.string (qs Q1.y),.string (qs Q1.z)] 31∧Blk W (w14.heap.size) #[.string (qs D1.x),.string (qs D1.y),.string (qs D1.z)] 31) ⟨(HX14.out.alloc _),(HB2_14.out.alloc _),(HB3_14.out.alloc _),(HB4_14.out.alloc _),(HB6_14.out.alloc _),(HB7_14.out.alloc _),(Blk.new' (w:=_) (cs:=#[.string (qs D1.x),.string (qs D1.y),.string (qs D1.z)]) (t:=31) (by first | rfl | (simp only [World.size_alloc];done) | (simp only [World.size_alloc];omega) | simp))⟩ ?_
  rintro w15 ⟨e15,bB2_15,bB3_15,bB4_15,bB6_15,bB7_15,bB9_15⟩
  have HX15:=Lib.hid e15;have HB2_15:=Lib.hid bB2_15;have HB3_15:=Lib.hid bB3_15;have HB4_15:=Lib.hid bB4_15;have HB6_15:=Lib.hid bB6_15;have HB7_15:=Lib.hid bB7_15;have HB9_15:=Lib.hid bB9_15
  have HGEB9:Hid (w.heap.size ≤ w14.heap.size):=Lib.hid (by have:=HX14.out.size;first | omega | (simp only [];omega) | (simp;omega))
  clear e15 bB2_15 bB3_15 bB4_15 bB6_15 bB7_15 bB9_15
  have c6_0:=HB6_15.out.cell 0 rfl
  have c6_1:=HB6_15.out.cell 1 rfl
  have c6_2:=HB6_15.out.cell 2 rfl
  have c7_0:=HB7_15.out.cell 0 rfl
  have c7_1:=HB7_15.out.cell 1 rfl
  have c7_2:=HB7_15.out.cell 2 rfl
  go_wp2_with fail
  refine (vCross_as P1 Q1 D1 HD2.out _ (HG.out.ext HX15.out) (HP1.out.mono (by decide)) (HQ1.out.mono (by decide)) (HD1.out.mono (by decide))).mono ?_;rintro e w16 ⟨rfl,e16⟩
  have HX16:Hid (Ext w w16):=Lib.hid (HX15.out.trans e16)
  have HB2_16:=Lib.hid (Blk.ext HB2_15.out e16)
  have HB3_16:=Lib.hid (Blk.ext HB3_15.out e16)
  have HB4_16:=Lib.hid (Blk.ext HB4_15.out e16)
  have HB6_16:=Lib.hid (Blk.ext HB6_15.out e16)
  have HB9_16:=Lib.hid (Blk.ext HB9_15.out e16)
  clear e16 c6_0 c6_1 c6_2 c7_0 c7_1 c7_2
  go_upto_region 12 with fail
  refine wp_name (fun W => Ext w W∧Blk W (i2) #[.int .i64 a.w,.int .i64 a.x,.int .i64 a.y,.int .i64 a.z] 22∧Blk W (i3) #[.int .i64 b.w,.int .i64 b.x,.int .i64 b.y,.int .i64 b.z] 22∧Blk W (i4) #[.string (qs u.x),.string (qs u.y),.string (qs u.z)] 31∧Blk W (w6.heap.size) #[.string (qs P1.x),.string (qs P1.y),.string (qs P1.z)] 31∧Blk W (w14.heap.size) #[.string (qs D1.x),.string (qs D1.y),.string (qs D1.z)] 31∧Blk W (w16.heap.size) #[.string (qs D1.x),.string (qs D1.y),.string (qs D1.z)] 31) ⟨(HX16.out.alloc _),(HB2_16.out.alloc _),(HB3_16.out.alloc _),(HB4_16.out.alloc _),(HB6_16.out.alloc _),(HB9_16.out.alloc _),(Blk.new' (w:=_) (cs:=#[.string (qs D1.x),.string (qs D1.y),.string (qs D1.z)]) (t:=31) (by first | rfl | (simp only [World.size_alloc];done) | (simp only [World.size_alloc];omega) | simp))⟩ ?_
  rintro w17 ⟨e17,bB2_17,bB3_17,bB4_17,bB6_17,bB9_17,bB10_17⟩
  have HX17:=Lib.hid e17;have HB2_17:=Lib.hid bB2_17;have HB3_17:=Lib.hid bB3_17;have HB4_17:=Lib.hid bB4_17;have HB6_17:=Lib.hid bB6_17;have HB9_17:=Lib.hid bB9_17;have HB10_17:=Lib.hid bB10_17
  have HGEB10:Hid (w.heap.size ≤ w16.heap.size):=Lib.hid (by have:=HX16.out.size;first | omega | (simp only [];omega) | (simp;omega))
  clear e17 bB2_17 bB3_17 bB4_17 bB6_17 bB9_17 bB10_17
  have c9_0:=HB9_17.out.cell 0 rfl
  have c9_1:=HB9_17.out.cell 1 rfl
  have c9_2:=HB9_17.out.cell 2 rfl
  have c10_0:=HB10_17.out.cell 0 rfl
  have c10_1:=HB10_17.out.cell 1 rfl
  have c10_2:=HB10_17.out.cell 2 rfl
  have c2_0:=HB2_17.out.cell 0 rfl
  have c2_1:=HB2_17.out.cell 1 rfl
  have c2_2:=HB2_17.out.cell 2 rfl
  have c2_3:=HB2_17.out.cell 3 rfl
  have c3_0:=HB3_17.out.cell 0 rfl
  have c3_1:=HB3_17.out.cell 1 rfl
  have c3_2:=HB3_17.out.cell 2 rfl
  have c3_3:=HB3_17.out.cell 3 rfl
  go_wp2_with fail
  refine (rcomp_ok a b p9 _ (HG.out.ext HX17.out) HaQ.out HbQ.out HaI.out HbI.out HaZ.out HbZ.out Hp9E.out Hp9Q.out).mono ?_;rintro e w18 ⟨rfl,e18⟩
  have HX18:Hid (Ext w w18):=Lib.hid (HX17.out.trans e18)
  have HB2_18:=Lib.hid (Blk.ext HB2_17.out e18)
  have HB3_18:=Lib.hid (Blk.ext HB3_17.out e18)
  have HB4_18:=Lib.hid (Blk.ext HB4_17.out e18)
  have HB6_18:=Lib.hid (Blk.ext HB6_17.out e18)
  clear e18 c9_0 c9_1 c9_2 c10_0 c10_1 c10_2 c2_0 c2_1 c2_2 c2_3 c3_0 c3_1 c3_2 c3_3
  go_upto_region 15 with fail
  refine wp_name (fun W => Ext w W∧Blk W (i2) #[.int .i64 a.w,.int .i64 a.x,.int .i64 a.y,.int .i64 a.z] 22∧Blk W (i3) #[.int .i64 b.w,.int .i64 b.x,.int .i64 b.y,.int .i64 b.z] 22∧Blk W (i4) #[.string (qs u.x),.string (qs u.y),.string (qs u.z)] 31∧Blk W (w6.heap.size) #[.string (qs P1.x),.string (qs P1.y),.string (qs P1.z)] 31∧Blk W (w18.heap.size) #[.int .i64 p9.w,.int .i64 p9.x,.int .i64 p9.y,.int .i64 p9.z] 22) ⟨(HX18.out.alloc _),(HB2_18.out.alloc _),(HB3_18.out.alloc _),(HB4_18.out.alloc _),(HB6_18.out.alloc _),(Blk.new' (w:=_) (cs:=#[.int .i64 p9.w,.int .i64 p9.x,.int .i64 p9.y,.int .i64 p9.z]) (t:=22) (by first | rfl | (simp only [World.size_alloc];done) | (simp only [World.size_alloc];omega) | simp))⟩ ?_
  rintro w19 ⟨e19,bB2_19,bB3_19,bB4_19,bB6_19,bB11_19⟩
  have HX19:=Lib.hid e19;have HB2_19:=Lib.hid bB2_19;have HB3_19:=Lib.hid bB3_19;have HB4_19:=Lib.hid bB4_19;have HB6_19:=Lib.hid bB6_19;have HB11_19:=Lib.hid bB11_19
  have HGEB11:Hid (w.heap.size ≤ w18.heap.size):=Lib.hid (by have:=HX18.out.size;first | omega | (simp only [];omega) | (simp;omega))
  clear e19 bB2_19 bB3_19 bB4_19 bB6_19 bB11_19
  have c11_0:=HB11_19.out.cell 0 rfl
  have c11_1:=HB11_19.out.cell 1 rfl
  have c11_2:=HB11_19.out.cell 2 rfl
  have c11_3:=HB11_19.out.cell 3 rfl
  have c4_0:=HB4_19.out.cell 0 rfl
  have c4_1:=HB4_19.out.cell 1 rfl
  have c4_2:=HB4_19.out.cell 2 rfl
  go_wp2_with fail
  refine (rapply_as p9 u O1 HO2.out _ (HG.out.ext HX19.out) Hp9.out.1 Hp9.out.2 Hu.out (by decide)).mono ?_;rintro e w20 ⟨rfl,e20⟩
  have HX20:Hid (Ext w w20):=Lib.hid (HX19.out.trans e20)
  have HB2_20:=Lib.hid (Blk.ext HB2_19.out e20)
  have HB3_20:=Lib.hid (Blk.ext HB3_19.out e20)
  have HB4_20:=Lib.hid (Blk.ext HB4_19.out e20)
  have HB6_20:=Lib.hid (Blk.ext HB6_19.out e20)
  clear e20 c11_0 c11_1 c11_2 c11_3 c4_0 c4_1 c4_2
  go_upto_region 16 with fail
  refine wp_name (fun W => Ext w W∧Blk W (i2) #[.int .i64 a.w,.int .i64 a.x,.int .i64 a.y,.int .i64 a.z] 22∧Blk W (i3) #[.int .i64 b.w,.int .i64 b.x,.int .i64 b.y,.int .i64 b.z] 22∧Blk W (i4) #[.string (qs u.x),.string (qs u.y),.string (qs u.z)] 31∧Blk W (w6.heap.size) #[.string (qs P1.x),.string (qs P1.y),.string (qs P1.z)] 31∧Blk W (w20.heap.size) #[.string (qs O1.x),.string (qs O1.y),.string (qs O1.z)] 31) ⟨(HX20.out.alloc _),(HB2_20.out.alloc _),(HB3_20.out.alloc _),(HB4_20.out.alloc _),(HB6_20.out.alloc _),(Blk.new' (w:=_) (cs:=#[.string (qs O1.x),.string (qs O1.y),.string (qs O1.z)]) (t:=31) (by first | rfl | (simp only [World.size_alloc];done) | (simp only [World.size_alloc];omega) | simp))⟩ ?_
  rintro w21 ⟨e21,bB2_21,bB3_21,bB4_21,bB6_21,bB12_21⟩
  have HX21:=Lib.hid e21;have HB2_21:=Lib.hid bB2_21;have HB3_21:=Lib.hid bB3_21;have HB4_21:=Lib.hid bB4_21;have HB6_21:=Lib.hid bB6_21;have HB12_21:=Lib.hid bB12_21
  have HGEB12:Hid (w.heap.size ≤ w20.heap.size):=Lib.hid (by have:=HX20.out.size;first | omega | (simp only [];omega) | (simp;omega))
  clear e21 bB2_21 bB3_21 bB4_21 bB6_21 bB12_21
  have c3_0:=HB3_21.out.cell 0 rfl
  have c3_1:=HB3_21.out.cell 1 rfl
  have c3_2:=HB3_21.out.cell 2 rfl
  have c3_3:=HB3_21.out.cell 3 rfl
  have c4_0:=HB4_21.out.cell 0 rfl
  have c4_1:=HB4_21.out.cell 1 rfl
  have c4_2:=HB4_21.out.cell 2 rfl
  go_wp2_with fail
  refine (rapply_as b u U1 HU1E.out _ (HG.out.ext HX21.out) HbI.out HbZ.out Hu.out (by decide)).mono ?_;rintro e w22 ⟨rfl,e22⟩
  have HX22:Hid (Ext w w22):=Lib.hid (HX21.out.trans e22)
  have HB2_22:=Lib.hid (Blk.ext HB2_21.out e22)
  have HB4_22:=Lib.hid (Blk.ext HB4_21.out e22)
  have HB6_22:=Lib.hid (Blk.ext HB6_21.out e22)
  have HB12_22:=Lib.hid (Blk.ext HB12_21.out e22)
  clear e22 c3_0 c3_1 c3_2 c3_3 c4_0 c4_1 c4_2
  go_upto_region 17 with fail
  refine wp_name (fun W => Ext w W∧Blk W (i2) #[.int .i64 a.w,.int .i64 a.x,.int .i64 a.y,.int .i64 a.z] 22∧Blk W (i4) #[.string (qs u.x),.string (qs u.y),.string (qs u.z)] 31∧Blk W (w6.heap.size) #[.string (qs P1.x),.string (qs P1.y),.string (qs P1.z)] 31∧Blk W (w20.heap.size) #[.string (qs O1.x),.string (qs O1.y),.string (qs O1.z)] 31∧Blk W (w22.heap.size) #[.string (qs U1.x),.string (qs U1.y),.string (qs U1.z)] 31) ⟨(HX22.out.alloc _),(HB2_22.out.alloc _),(HB4_22.out.alloc _),(HB6_22.out.alloc _),(HB12_22.out.alloc _),(Blk.new' (w:=_) (cs:=#[.string (qs U1.x),.string (qs U1.y),.string (qs U1.z)]) (t:=31) (by first | rfl | (simp only [World.size_alloc];done) | (simp only [World.size_alloc];omega) | simp))⟩ ?_
  rintro w23 ⟨e23,bB2_23,bB4_23,bB6_23,bB12_23,bB13_23⟩
  have HX23:=Lib.hid e23;have HB2_23:=Lib.hid bB2_23;have HB4_23:=Lib.hid bB4_23;have HB6_23:=Lib.hid bB6_23;have HB12_23:=Lib.hid bB12_23;have HB13_23:=Lib.hid bB13_23
  have HGEB13:Hid (w.heap.size ≤ w22.heap.size):=Lib.hid (by have:=HX22.out.size;first | omega | (simp only [];omega) | (simp;omega))
  clear e23 bB2_23 bB4_23 bB6_23 bB12_23 bB13_23
  have c2_0:=HB2_23.out.cell 0 rfl
  have c2_1:=HB2_23.out.cell 1 rfl
  have c2_2:=HB2_23.out.cell 2 rfl
  have c2_3:=HB2_23.out.cell 3 rfl
  have c13_0:=HB13_23.out.cell 0 rfl
  have c13_1:=HB13_23.out.cell 1 rfl
  have c13_2:=HB13_23.out.cell 2 rfl
  go_wp2_with fail
  refine (rapply_as a U1 O1 HO1E.out _ (HG.out.ext HX23.out) HaI.out HaZ.out HU1.out (by decide)).mono ?_;rintro e w24 ⟨rfl,e24⟩
  have HX24:Hid (Ext w w24):=Lib.hid (HX23.out.trans e24)
  have HB2_24:=Lib.hid (Blk.ext HB2_23.out e24)
  have HB4_24:=Lib.hid (Blk.ext HB4_23.out e24)
  have HB6_24:=Lib.hid (Blk.ext HB6_23.out e24)
  have HB12_24:=Lib.hid (Blk.ext HB12_23.out e24)
  have HB13_24:=Lib.hid (Blk.ext HB13_23.out e24)
  clear e24 c2_0 c2_1 c2_2 c2_3 c13_0 c13_1 c13_2
  have c13_0:=HB13_24.out.cell 0 rfl
  have f13_0:=HB13_24.out.free 0
  have c13_1:=HB13_24.out.cell 1 rfl
  have f13_1:=HB13_24.out.free 1
  have c13_2:=HB13_24.out.cell 2 rfl
  have f13_2:=HB13_24.out.free 2
  go_upto_region 18 with fail
  refine wp_name (fun W => Ext w W∧Blk W (i2) #[.int .i64 a.w,.int .i64 a.x,.int .i64 a.y,.int .i64 a.z] 22∧Blk W (i4) #[.string (qs u.x),.string (qs u.y),.string (qs u.z)] 31∧Blk W (w6.heap.size) #[.string (qs P1.x),.string (qs P1.y),.string (qs P1.z)] 31∧Blk W (w20.heap.size) #[.string (qs O1.x),.string (qs O1.y),.string (qs O1.z)] 31∧Blk W (w22.heap.size) #[.string (qs O1.x),.string (qs O1.y),.string (qs O1.z)] 31) ⟨(((HX24.out.setCell (by have:=HGEB13.out;first | omega | (simp only [];omega) | (simp;omega)) _).setCell (by have:=HGEB13.out;first | omega | (simp only [];omega) | (simp;omega)) _).setCell (by have:=HGEB13.out;first | omega | (simp only [];omega) | (simp;omega)) _),(((HB2_24.out.other (a:=⟨w22.heap.size,0,none⟩) _ (by have:=HB2_22.out.lt;first | omega | (simp only [];omega) | (simp;omega))).other (a:=⟨w22.heap.size,1,none⟩) _ (by have:=HB2_22.out.lt;first | omega | (simp only [];omega) | (simp;omega))).other (a:=⟨w22.heap.size,2,none⟩) _ (by have:=HB2_22.out.lt;first | omega | (simp only [];omega) | (simp;omega))),(((HB4_24.out.other (a:=⟨w22.heap.size,0,none⟩) _ (by have:=HB4_22.out.lt;first | omega | (simp only [];omega) | (simp;omega))).other (a:=⟨w22.heap.size,1,none⟩) _ (by have:=HB4_22.out.lt;first | omega | (simp only [];omega) | (simp;omega))).other (a:=⟨w22.heap.size,2,none⟩) _ (by have:=HB4_22.out.lt;first | omega | (simp only [];omega) | (simp;omega))),(((HB6_24.out.other (a:=⟨w22.heap.size,0,none⟩) _ (by have:=HB6_22.out.lt;first | omega | (simp only [];omega) | (simp;omega))).other (a:=⟨w22.heap.size,1,none⟩) _ (by have:=HB6_22.out.lt;first | omega | (simp only [];omega) | (simp;omega))).other (a:=⟨w22.heap.size,2,none⟩) _ (by have:=HB6_22.out.lt;first | omega | (simp only [];omega) | (simp;omega))),(((HB12_24.out.other (a:=⟨w22.heap.size,0,none⟩) _ (by have:=HB12_22.out.lt;first | omega | (simp only [];omega) | (simp;omega))).other (a:=⟨w22.heap.size,1,none⟩) _ (by have:=HB12_22.out.lt;first | omega | (simp only [];omega) | (simp;omega))).other (a:=⟨w22.heap.size,2,none⟩) _ (by have:=HB12_22.out.lt;first | omega | (simp only [];omega) | (simp;omega))),(((HB13_24.out.set 0 (.string (qs O1.x))).set 1 (.string (qs O1.y))).set 2 (.string (qs O1.z)))⟩ ?_
  rintro w25 ⟨e25,bB2_25,bB4_25,bB6_25,bB12_25,bB13_25⟩
  have HX25:=Lib.hid e25;have HB2_25:=Lib.hid bB2_25;have HB4_25:=Lib.hid bB4_25;have HB6_25:=Lib.hid bB6_25;have HB12_25:=Lib.hid bB12_25;have HB13_25:=Lib.hid bB13_25
  clear e25 bB2_25 bB4_25 bB6_25 bB12_25 bB13_25 c13_0 f13_0 c13_1 f13_1 c13_2 f13_2
  have c2_0:=HB2_25.out.cell 0 rfl
  have c2_1:=HB2_25.out.cell 1 rfl
  have c2_2:=HB2_25.out.cell 2 rfl
  have c2_3:=HB2_25.out.cell 3 rfl
  go_wp2_with fail
  refine (rinv_c a q9 _ (HG.out.ext HX25.out) HaQ.out HaI.out HaZ.out Hq9E.out).mono ?_;rintro e w26 ⟨rfl,e26⟩
  have HX26:Hid (Ext w w26):=Lib.hid (HX25.out.trans e26)
  have HB4_26:=Lib.hid (Blk.ext HB4_25.out e26)
  have HB6_26:=Lib.hid (Blk.ext HB6_25.out e26)
  have HB12_26:=Lib.hid (Blk.ext HB12_25.out e26)
  have HB13_26:=Lib.hid (Blk.ext HB13_25.out e26)
  clear e26 c2_0 c2_1 c2_2 c2_3
  go_upto_region 19 with fail
  refine wp_name (fun W => Ext w W∧Blk W (i4) #[.string (qs u.x),.string (qs u.y),.string (qs u.z)] 31∧Blk W (w6.heap.size) #[.string (qs P1.x),.string (qs P1.y),.string (qs P1.z)] 31∧Blk W (w20.heap.size) #[.string (qs O1.x),.string (qs O1.y),.string (qs O1.z)] 31∧Blk W (w22.heap.size) #[.string (qs O1.x),.string (qs O1.y),.string (qs O1.z)] 31∧Blk W (w26.heap.size) #[.int .i64 q9.w,.int .i64 q9.x,.int .i64 q9.y,.int .i64 q9.z] 22) ⟨(HX26.out.alloc _),(HB4_26.out.alloc _),(HB6_26.out.alloc _),(HB12_26.out.alloc _),(HB13_26.out.alloc _),(Blk.new' (w:=_) (cs:=#[.int .i64 q9.w,.int .i64 q9.x,.int .i64 q9.y,.int .i64 q9.z]) (t:=22) (by first | rfl | (simp only [World.size_alloc];done) | (simp only [World.size_alloc];omega) | simp))⟩ ?_
  rintro w27 ⟨e27,bB4_27,bB6_27,bB12_27,bB13_27,bB14_27⟩
  have HX27:=Lib.hid e27;have HB4_27:=Lib.hid bB4_27;have HB6_27:=Lib.hid bB6_27;have HB12_27:=Lib.hid bB12_27;have HB13_27:=Lib.hid bB13_27;have HB14_27:=Lib.hid bB14_27
  have HGEB14:Hid (w.heap.size ≤ w26.heap.size):=Lib.hid (by have:=HX26.out.size;first | omega | (simp only [];omega) | (simp;omega))
  clear e27 bB4_27 bB6_27 bB12_27 bB13_27 bB14_27
  have c14_0:=HB14_27.out.cell 0 rfl
  have c14_1:=HB14_27.out.cell 1 rfl
  have c14_2:=HB14_27.out.cell 2 rfl
  have c14_3:=HB14_27.out.cell 3 rfl
  have c6_0:=HB6_27.out.cell 0 rfl
  have c6_1:=HB6_27.out.cell 1 rfl
  have c6_2:=HB6_27.out.cell 2 rfl
  go_wp2_with fail
  refine (rapply_as q9 P1 u HR2.out _ (HG.out.ext HX27.out) Hq9.out.1 Hq9.out.2 HP1.out (by decide)).mono ?_;rintro e w28 ⟨rfl,e28⟩
  have HX28:Hid (Ext w w28):=Lib.hid (HX27.out.trans e28)
  have HB4_28:=Lib.hid (Blk.ext HB4_27.out e28)
  have HB12_28:=Lib.hid (Blk.ext HB12_27.out e28)
  have HB13_28:=Lib.hid (Blk.ext HB13_27.out e28)
  clear e28 c14_0 c14_1 c14_2 c14_3 c6_0 c6_1 c6_2
  go_upto_region 20 with fail
  refine wp_name (fun W => Ext w W∧Blk W (i4) #[.string (qs u.x),.string (qs u.y),.string (qs u.z)] 31∧Blk W (w20.heap.size) #[.string (qs O1.x),.string (qs O1.y),.string (qs O1.z)] 31∧Blk W (w22.heap.size) #[.string (qs O1.x),.string (qs O1.y),.string (qs O1.z)] 31∧Blk W (w28.heap.size) #[.string (qs u.x),.string (qs u.y),.string (qs u.z)] 31) ⟨(HX28.out.alloc _),(HB4_28.out.alloc _),(HB12_28.out.alloc _),(HB13_28.out.alloc _),(Blk.new' (w:=_) (cs:=#[.string (qs u.x),.string (qs u.y),.string (qs u.z)]) (t:=31) (by first | rfl | (simp only [World.size_alloc];done) | (simp only [World.size_alloc];omega) | simp))⟩ ?_
  rintro w29 ⟨e29,bB4_29,bB12_29,bB13_29,bB15_29⟩
  have HX29:=Lib.hid e29;have HB4_29:=Lib.hid bB4_29;have HB12_29:=Lib.hid bB12_29;have HB13_29:=Lib.hid bB13_29;have HB15_29:=Lib.hid bB15_29
  have HGEB15:Hid (w.heap.size ≤ w28.heap.size):=Lib.hid (by have:=HX28.out.size;first | omega | (simp only [];omega) | (simp;omega))
  clear e29 bB4_29 bB12_29 bB13_29 bB15_29
  have c12_0:=HB12_29.out.cell 0 rfl
  have c12_1:=HB12_29.out.cell 1 rfl
  have c12_2:=HB12_29.out.cell 2 rfl
  have c13_0:=HB13_29.out.cell 0 rfl
  have c13_1:=HB13_29.out.cell 1 rfl
  have c13_2:=HB13_29.out.cell 2 rfl
  have c15_0:=HB15_29.out.cell 0 rfl
  have c15_1:=HB15_29.out.cell 1 rfl
  have c15_2:=HB15_29.out.cell 2 rfl
  have c4_0:=HB4_29.out.cell 0 rfl
  have c4_1:=HB4_29.out.cell 1 rfl
  have c4_2:=HB4_29.out.cell 2 rfl
  go_wp2
  go_ret
  exact ⟨rfl,HX29.out⟩
end Go.Proofs.YtjeimihnoiephaaGreatDoor
