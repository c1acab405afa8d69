/- Part 52 of the proof: M8. -/
import Derived.Test.YtjeimihnoiephaaGreatDoorQX1
import Derived.Test.YtjeimihnoiephaaGreatDoorQX2
import Derived.Test.YtjeimihnoiephaaGreatDoorQX3
import Derived.Test.YtjeimihnoiephaaGreatDoorQX4
import Derived.Test.YtjeimihnoiephaaGreatDoorQX5
import Derived.Test.YtjeimihnoiephaaGreatDoorQX6
import Derived.Test.YtjeimihnoiephaaGreatDoorQX7
import Derived.Test.YtjeimihnoiephaaGreatDoorQX8
import Derived.Test.YtjeimihnoiephaaGreatDoorQX9
import Derived.Test.YtjeimihnoiephaaGreatDoorQX10
import Derived.Test.YtjeimihnoiephaaGreatDoorQX11
import Derived.Test.YtjeimihnoiephaaGreatDoorQX12
import Derived.Test.YtjeimihnoiephaaGreatDoorQX13
import Derived.Test.YtjeimihnoiephaaGreatDoorQX14
import Derived.Test.YtjeimihnoiephaaGreatDoorQX15
import Derived.Test.YtjeimihnoiephaaGreatDoorQX16
import Derived.Test.YtjeimihnoiephaaGreatDoorQX17
import Derived.Test.YtjeimihnoiephaaGreatDoorQX18
import Derived.Test.YtjeimihnoiephaaGreatDoorQX19
import Derived.Test.YtjeimihnoiephaaGreatDoorQX20
import Derived.Test.YtjeimihnoiephaaGreatDoorQX21
import Derived.Test.YtjeimihnoiephaaGreatDoorQX22
import Derived.Test.YtjeimihnoiephaaGreatDoorQX23
import Derived.Test.YtjeimihnoiephaaGreatDoorQX24
import Derived.Test.YtjeimihnoiephaaGreatDoorQX25
import Derived.Test.YtjeimihnoiephaaGreatDoorQX26
import Derived.Test.YtjeimihnoiephaaGreatDoorQX27
import Derived.Test.YtjeimihnoiephaaGreatDoorQX28
import Derived.Test.YtjeimihnoiephaaGreatDoorQX29
import Derived.Test.YtjeimihnoiephaaGreatDoorQX30
import Derived.Test.YtjeimihnoiephaaGreatDoorQX32
import Derived.Test.YtjeimihnoiephaaGreatDoorQX34
import Derived.Test.YtjeimihnoiephaaGreatDoorQX35
import Derived.Test.YtjeimihnoiephaaGreatDoorQX36
import Derived.Test.YtjeimihnoiephaaGreatDoorQX37
import Derived.Test.YtjeimihnoiephaaGreatDoorQX38
import Derived.Test.YtjeimihnoiephaaGreatDoorQX39
import Derived.Test.YtjeimihnoiephaaGreatDoorQX40
import Derived.Test.YtjeimihnoiephaaGreatDoorQX48
import Derived.Test.YtjeimihnoiephaaGreatDoorQX49
import Derived.Test.YtjeimihnoiephaaGreatDoorQX50
import Derived.Test.YtjeimihnoiephaaGreatDoorQX51
namespace Go.Proofs.YtjeimihnoiephaaGreatDoor
open Go Go.RowKit
set_option linter.unusedVariables false
theorem run_max4 (a b c d:Int) (W:World):(Builtin.max_ #[3,3,3,3] 3 #[.int .i64 a,.int .i64 b,.int .i64 c,.int .i64 d]).run Tryz.prog W = .ok (.int .i64 (max a (max b (max c d)))) W:=by
  have e:∀ (x y:Int) (W:World),(Builtin.max2 (.int .i64 x) (.int .i64 y)).run Tryz.prog W = .ok (.int .i64 (max x y)) W:=fun x y W => by
    have h:(if y > x then y else x) = max x y:=by split <;> omega
    rw [← h]
    simp [Builtin.max2]
  simp [Builtin.max_,e]
set_option maxRecDepth 100000 in
set_option maxHeartbeats 2000000 in
theorem rbnd_l (t p:Q4) (e:Int) (w:World) (g:Gd w) (hb:Q4Bd t) (hz:¬ t.zero) (hp:prim4 t = p) (he:QErr p e) (hne:e ≠ 0):Calls Tryz.prog 57 #[.agg #[.int .i64 t.w,.int .i64 t.x,.int .i64 t.y,.int .i64 t.z]] w (Ret w (.tuple #[.agg #[.int .i64 0,.int .i64 0,.int .i64 0,.int .i64 0],.int .i64 4])):=by
  have HB:=Lib.hid hb
  have HZ:=Lib.hid hz
  have HEP:=Lib.hid hp
  have HE:=Lib.hid he
  have HG:=Lib.hid g
  clear hb hz hp he g
  have e_n:(e != 0) = true:=bne_iff_ne.2 hne
  have e_e:(e == 0) = false:=beq_eq_false_iff_ne.2 hne
  clear hne
  go_enter Tryz.func57,Tryz.ntmps57
  go_wp2_with fail
  refine (rprim_as t p HEP.out _ (HG.out.ext (((Ext.refl w).alloc _).alloc _)) HB.out HZ.out).mono ?_;rintro e w1 ⟨rfl,e1⟩
  have HX1:Hid (Ext w w1):=Lib.hid ((((Ext.refl w).alloc _).alloc _).trans e1)
  have HB0_1:Hid (Blk w1 (w.heap.size) #[.int .i64 t.w,.int .i64 t.x,.int .i64 t.y,.int .i64 t.z] 22):=Lib.hid (Blk.ext ((Blk.new' (w:=_) (cs:=#[.int .i64 t.w,.int .i64 t.x,.int .i64 t.y,.int .i64 t.z]) (t:=22) (by first | rfl | (simp only [World.size_alloc];done) | (simp only [World.size_alloc];omega) | simp)).alloc _) e1)
  have HB1_1:Hid (Blk w1 (w.heap.size + 1) #[.int .i64 0,.int .i64 0,.int .i64 0,.int .i64 0] 22):=Lib.hid (Blk.ext (Blk.new' (w:=_) (cs:=#[.int .i64 0,.int .i64 0,.int .i64 0,.int .i64 0]) (t:=22) (by first | rfl | (simp only [World.size_alloc];done) | (simp only [World.size_alloc];omega) | simp)) e1)
  have HGEB0:Hid (w.heap.size ≤ w.heap.size):=Lib.hid (by first | omega | (simp only [];omega) | (simp;omega))
  have HGEB1:Hid (w.heap.size ≤ w.heap.size + 1):=Lib.hid (by first | omega | (simp only [];omega) | (simp;omega))
  clear e1
  have c0_0:=HB0_1.out.cell 0 rfl
  have f0_0:=HB0_1.out.free 0
  have c0_1:=HB0_1.out.cell 1 rfl
  have f0_1:=HB0_1.out.free 1
  have c0_2:=HB0_1.out.cell 2 rfl
  have f0_2:=HB0_1.out.free 2
  have c0_3:=HB0_1.out.cell 3 rfl
  have f0_3:=HB0_1.out.free 3
  go_upto_region 2 with fail
  refine wp_name (fun W => Ext w W∧Blk W (w.heap.size) #[.int .i64 p.w,.int .i64 p.x,.int .i64 p.y,.int .i64 p.z] 22∧Blk W (w.heap.size + 1) #[.int .i64 0,.int .i64 0,.int .i64 0,.int .i64 0] 22) ⟨((((HX1.out.setCell (by have:=HGEB0.out;first | omega | (simp only [];omega) | (simp;omega)) _).setCell (by have:=HGEB0.out;first | omega | (simp only [];omega) | (simp;omega)) _).setCell (by have:=HGEB0.out;first | omega | (simp only [];omega) | (simp;omega)) _).setCell (by have:=HGEB0.out;first | omega | (simp only [];omega) | (simp;omega)) _),((((HB0_1.out.set 0 (.int .i64 p.w)).set 1 (.int .i64 p.x)).set 2 (.int .i64 p.y)).set 3 (.int .i64 p.z)),((((HB1_1.out.other (a:=⟨w.heap.size,0,none⟩) _ (by first | omega | (simp only [];omega) | (simp;omega))).other (a:=⟨w.heap.size,1,none⟩) _ (by first | omega | (simp only [];omega) | (simp;omega))).other (a:=⟨w.heap.size,2,none⟩) _ (by first | omega | (simp only [];omega) | (simp;omega))).other (a:=⟨w.heap.size,3,none⟩) _ (by first | omega | (simp only [];omega) | (simp;omega)))⟩ ?_
  rintro w2 ⟨e2,bB0_2,bB1_2⟩
  have HX2:=Lib.hid e2;have HB0_2:=Lib.hid bB0_2;have HB1_2:=Lib.hid bB1_2
  clear e2 bB0_2 bB1_2 c0_0 f0_0 c0_1 f0_1 c0_2 f0_2 c0_3 f0_3
  have c0_0:=HB0_2.out.cell 0 rfl
  have c0_1:=HB0_2.out.cell 1 rfl
  have c0_2:=HB0_2.out.cell 2 rfl
  have c0_3:=HB0_2.out.cell 3 rfl
  go_wp2_with fail
  refine (rchk_l _ (HG.out.ext HX2.out) HE.out).mono ?_;rintro e w3 ⟨rfl,e3⟩
  have HX3:Hid (Ext w w3):=Lib.hid (HX2.out.trans e3)
  have HB1_3:=Lib.hid (Blk.ext HB1_2.out e3)
  clear e3 c0_0 c0_1 c0_2 c0_3
  have c1_0:=HB1_3.out.cell 0 rfl
  have f1_0:=HB1_3.out.free 0
  have c1_1:=HB1_3.out.cell 1 rfl
  have f1_1:=HB1_3.out.free 1
  have c1_2:=HB1_3.out.cell 2 rfl
  have f1_2:=HB1_3.out.free 2
  have c1_3:=HB1_3.out.cell 3 rfl
  have f1_3:=HB1_3.out.free 3
  go_wp2_with fail
  refine wp_name (fun W => Ext w W∧Blk W (w.heap.size + 1) #[.int .i64 0,.int .i64 0,.int .i64 0,.int .i64 0] 22) ⟨((((HX3.out.setCell (by have:=HGEB1.out;first | omega | (simp only [];omega) | (simp;omega)) _).setCell (by have:=HGEB1.out;first | omega | (simp only [];omega) | (simp;omega)) _).setCell (by have:=HGEB1.out;first | omega | (simp only [];omega) | (simp;omega)) _).setCell (by have:=HGEB1.out;first | omega | (simp only [];omega) | (simp;omega)) _),((((HB1_3.out.set 0 (.int .i64 0)).set 1 (.int .i64 0)).set 2 (.int .i64 0)).set 3 (.int .i64 0))⟩ ?_
  rintro w4 ⟨e4,bB1_4⟩
  have HX4:=Lib.hid e4;have HB1_4:=Lib.hid bB1_4
  clear e4 bB1_4 c1_0 f1_0 c1_1 f1_1 c1_2 f1_2 c1_3 f1_3
  have gB1_0:=HB1_4.out.cell 0 rfl
  have gB1_1:=HB1_4.out.cell 1 rfl
  have gB1_2:=HB1_4.out.cell 2 rfl
  have gB1_3:=HB1_4.out.cell 3 rfl
  refine bodyPost_ret (v:=.tuple #[.agg #[.int .i64 0,.int .i64 0,.int .i64 0,.int .i64 0],.int .i64 4]) (by simp [results,Tryz.results57,go_sem,gB1_0,gB1_1,gB1_2,gB1_3]) rfl ⟨rfl,HX4.out⟩

set_option maxRecDepth 100000 in
set_option maxHeartbeats 16000000 in
theorem rcomp_l (a b p:Q4) (e:Int) (w:World) (g:Gd w) (hea:QErr a 0) (heb:QErr b 0) (hia:Q4In a) (hib:Q4In b) (hza:¬ a.zero) (hzb:¬ b.zero) (hp:prim4 (prod4 a b) = p) (he:QErr p e) (hne:e ≠ 0):Calls Tryz.prog 24 #[.agg #[.int .i64 a.w,.int .i64 a.x,.int .i64 a.y,.int .i64 a.z],.agg #[.int .i64 b.w,.int .i64 b.x,.int .i64 b.y,.int .i64 b.z]] w (Ret w (.tuple #[.agg #[.int .i64 0,.int .i64 0,.int .i64 0,.int .i64 0],.int .i64 4])):=by
  have HEA:=Lib.hid hea
  have HEB:=Lib.hid heb
  have HZA:=Lib.hid hza
  have HZB:=Lib.hid hzb
  have HEP:=Lib.hid hp
  have HE:=Lib.hid he
  have HNE:=Lib.hid hne
  have HG:=Lib.hid g
  clear hea heb hza hzb hp he hne g
  have pww:=mul_bd hia.w hib.w
  have pwx:=mul_bd hia.w hib.x
  have pwy:=mul_bd hia.w hib.y
  have pwz:=mul_bd hia.w hib.z
  have pxw:=mul_bd hia.x hib.w
  have pxx:=mul_bd hia.x hib.x
  have pxy:=mul_bd hia.x hib.y
  have pxz:=mul_bd hia.x hib.z
  have pyw:=mul_bd hia.y hib.w
  have pyx:=mul_bd hia.y hib.x
  have pyy:=mul_bd hia.y hib.y
  have pyz:=mul_bd hia.y hib.z
  have pzw:=mul_bd hia.z hib.w
  have pzx:=mul_bd hia.z hib.x
  have pzy:=mul_bd hia.z hib.y
  have pzz:=mul_bd hia.z hib.z
  have HIA:=Lib.hid hia;have HIB:=Lib.hid hib;clear hia hib
  go_enter Tryz.func24,Tryz.ntmps24
  go_wp2_with fail
  refine (rchks_ok a b 0 (w.heap.size + 1 + 1 + 1) _ (HG.out.ext (((((Ext.refl w).alloc _).alloc _).alloc _).alloc _)) (Blk.new' (w:=_) (cs:=#[.int .i64 a.w,.int .i64 a.x,.int .i64 a.y,.int .i64 a.z,.int .i64 b.w,.int .i64 b.x,.int .i64 b.y,.int .i64 b.z]) (t:=22) (by first | rfl | (simp only [World.size_alloc];done) | (simp only [World.size_alloc];omega) | simp)) HEA.out HEB.out).mono ?_;rintro e w1 ⟨rfl,e1⟩
  have HX1:Hid (Ext w w1):=Lib.hid ((((((Ext.refl w).alloc _).alloc _).alloc _).alloc _).trans e1)
  have HB0_1:Hid (Blk w1 (w.heap.size) #[.int .i64 a.w,.int .i64 a.x,.int .i64 a.y,.int .i64 a.z] 22):=Lib.hid (Blk.ext ((((Blk.new' (w:=_) (cs:=#[.int .i64 a.w,.int .i64 a.x,.int .i64 a.y,.int .i64 a.z]) (t:=22) (by first | rfl | (simp only [World.size_alloc];done) | (simp only [World.size_alloc];omega) | simp)).alloc _).alloc _).alloc _) e1)
  have HB1_1:Hid (Blk w1 (w.heap.size + 1) #[.int .i64 b.w,.int .i64 b.x,.int .i64 b.y,.int .i64 b.z] 22):=Lib.hid (Blk.ext (((Blk.new' (w:=_) (cs:=#[.int .i64 b.w,.int .i64 b.x,.int .i64 b.y,.int .i64 b.z]) (t:=22) (by first | rfl | (simp only [World.size_alloc];done) | (simp only [World.size_alloc];omega) | simp)).alloc _).alloc _) e1)
  have HB2_1:Hid (Blk w1 (w.heap.size + 1 + 1) #[.int .i64 0,.int .i64 0,.int .i64 0,.int .i64 0] 22):=Lib.hid (Blk.ext ((Blk.new' (w:=_) (cs:=#[.int .i64 0,.int .i64 0,.int .i64 0,.int .i64 0]) (t:=22) (by first | rfl | (simp only [World.size_alloc];done) | (simp only [World.size_alloc];omega) | simp)).alloc _) e1)
  have HB3_1:Hid (Blk w1 (w.heap.size + 1 + 1 + 1) #[.int .i64 a.w,.int .i64 a.x,.int .i64 a.y,.int .i64 a.z,.int .i64 b.w,.int .i64 b.x,.int .i64 b.y,.int .i64 b.z] 22):=Lib.hid (Blk.ext (Blk.new' (w:=_) (cs:=#[.int .i64 a.w,.int .i64 a.x,.int .i64 a.y,.int .i64 a.z,.int .i64 b.w,.int .i64 b.x,.int .i64 b.y,.int .i64 b.z]) (t:=22) (by first | rfl | (simp only [World.size_alloc];done) | (simp only [World.size_alloc];omega) | simp)) e1)
  have HGEB0:Hid (w.heap.size ≤ w.heap.size):=Lib.hid (by first | omega | (simp only [];omega) | (simp;omega))
  have HGEB1:Hid (w.heap.size ≤ w.heap.size + 1):=Lib.hid (by first | omega | (simp only [];omega) | (simp;omega))
  have HGEB2:Hid (w.heap.size ≤ w.heap.size + 1 + 1):=Lib.hid (by first | omega | (simp only [];omega) | (simp;omega))
  have HGEB3:Hid (w.heap.size ≤ w.heap.size + 1 + 1 + 1):=Lib.hid (by first | omega | (simp only [];omega) | (simp;omega))
  clear e1
  have c0_0:=HB0_1.out.cell 0 rfl
  have c1_0:=HB1_1.out.cell 0 rfl
  have c0_1:=HB0_1.out.cell 1 rfl
  have c1_1:=HB1_1.out.cell 1 rfl
  have c0_2:=HB0_1.out.cell 2 rfl
  have c1_2:=HB1_1.out.cell 2 rfl
  have c0_3:=HB0_1.out.cell 3 rfl
  have c1_3:=HB1_1.out.cell 3 rfl
  go_wp2_with fail
  refine (rbnd_l (prod4 a b) p e _ (HG.out.ext HX1.out) (prod4_bd HIA.out HIB.out) (prod4_nz HZA.out HZB.out) HEP.out HE.out HNE.out).mono ?_;rintro e w2 ⟨rfl,e2⟩
  have HX2:Hid (Ext w w2):=Lib.hid (HX1.out.trans e2)
  have HB2_2:=Lib.hid (Blk.ext HB2_1.out e2)
  clear e2 c0_0 c1_0 c0_1 c1_1 c0_2 c1_2 c0_3 c1_3
  have c2_0:=HB2_2.out.cell 0 rfl
  have f2_0:=HB2_2.out.free 0
  have c2_1:=HB2_2.out.cell 1 rfl
  have f2_1:=HB2_2.out.free 1
  have c2_2:=HB2_2.out.cell 2 rfl
  have f2_2:=HB2_2.out.free 2
  have c2_3:=HB2_2.out.cell 3 rfl
  have f2_3:=HB2_2.out.free 3
  go_wp2_with fail
  refine wp_name (fun W => Ext w W∧Blk W (w.heap.size + 1 + 1) #[.int .i64 0,.int .i64 0,.int .i64 0,.int .i64 0] 22) ⟨((((HX2.out.setCell (by have:=HGEB2.out;first | omega | (simp only [];omega) | (simp;omega)) _).setCell (by have:=HGEB2.out;first | omega | (simp only [];omega) | (simp;omega)) _).setCell (by have:=HGEB2.out;first | omega | (simp only [];omega) | (simp;omega)) _).setCell (by have:=HGEB2.out;first | omega | (simp only [];omega) | (simp;omega)) _),((((HB2_2.out.set 0 (.int .i64 0)).set 1 (.int .i64 0)).set 2 (.int .i64 0)).set 3 (.int .i64 0))⟩ ?_
  rintro w3 ⟨e3,bB2_3⟩
  have HX3:=Lib.hid e3;have HB2_3:=Lib.hid bB2_3
  clear e3 bB2_3 c2_0 f2_0 c2_1 f2_1 c2_2 f2_2 c2_3 f2_3
  have gB2_0:=HB2_3.out.cell 0 rfl
  have gB2_1:=HB2_3.out.cell 1 rfl
  have gB2_2:=HB2_3.out.cell 2 rfl
  have gB2_3:=HB2_3.out.cell 3 rfl
  refine bodyPost_ret (v:=.tuple #[.agg #[.int .i64 0,.int .i64 0,.int .i64 0,.int .i64 0],.int .i64 4]) (by simp [results,Tryz.results24,go_sem,gB2_0,gB2_1,gB2_2,gB2_3]) rfl ⟨rfl,HX3.out⟩

set_option maxRecDepth 100000 in
set_option maxHeartbeats 16000000 in
theorem lprod_c (a b:Q4) (w:World) (g:Gd w) (hia:Q4In a) (hib:Q4In b):Calls Tryz.prog 25 #[.agg #[.int .i64 a.w,.int .i64 a.x,.int .i64 a.y,.int .i64 a.z],.agg #[.int .i64 b.w,.int .i64 b.x,.int .i64 b.y,.int .i64 b.z]] w (Ret w (.agg #[.int .i64 (a.w * b.w - a.x * b.x - a.y * b.y - a.z * b.z),.int .i64 (a.w * b.x + a.x * b.w + a.y * b.z - a.z * b.y),.int .i64 (a.w * b.y - a.x * b.z + a.y * b.w + a.z * b.x),.int .i64 (a.w * b.z + a.x * b.y - a.y * b.x + a.z * b.w)])):=by
  have HG:=Lib.hid g
  clear g
  have pww:=mul_bd hia.w hib.w
  have pwx:=mul_bd hia.w hib.x
  have pwy:=mul_bd hia.w hib.y
  have pwz:=mul_bd hia.w hib.z
  have pxw:=mul_bd hia.x hib.w
  have pxx:=mul_bd hia.x hib.x
  have pxy:=mul_bd hia.x hib.y
  have pxz:=mul_bd hia.x hib.z
  have pyw:=mul_bd hia.y hib.w
  have pyx:=mul_bd hia.y hib.x
  have pyy:=mul_bd hia.y hib.y
  have pyz:=mul_bd hia.y hib.z
  have pzw:=mul_bd hia.z hib.w
  have pzx:=mul_bd hia.z hib.x
  have pzy:=mul_bd hia.z hib.y
  have pzz:=mul_bd hia.z hib.z
  clear hia hib
  go_enter Tryz.func25,Tryz.ntmps25
  go_wp2_with fail
  refine wp_name (fun W => Ext w W∧Blk W (w.heap.size + 1 + 1) #[.int .i64 (a.w * b.w - a.x * b.x - a.y * b.y - a.z * b.z),.int .i64 (a.w * b.x + a.x * b.w + a.y * b.z - a.z * b.y),.int .i64 (a.w * b.y - a.x * b.z + a.y * b.w + a.z * b.x),.int .i64 (a.w * b.z + a.x * b.y - a.y * b.x + a.z * b.w)] 22) ⟨((((Ext.refl w).alloc _).alloc _).alloc _),(Blk.new' (w:=_) (cs:=#[.int .i64 (a.w * b.w - a.x * b.x - a.y * b.y - a.z * b.z),.int .i64 (a.w * b.x + a.x * b.w + a.y * b.z - a.z * b.y),.int .i64 (a.w * b.y - a.x * b.z + a.y * b.w + a.z * b.x),.int .i64 (a.w * b.z + a.x * b.y - a.y * b.x + a.z * b.w)]) (t:=22) (by first | rfl | (simp only [World.size_alloc];done) | (simp only [World.size_alloc];omega) | simp))⟩ ?_
  rintro w1 ⟨e1,bB2_1⟩
  have HX1:=Lib.hid e1;have HB2_1:=Lib.hid bB2_1
  have HGEB2:Hid (w.heap.size ≤ w.heap.size + 1 + 1):=Lib.hid (by first | omega | (simp only [];omega) | (simp;omega))
  clear e1 bB2_1
  have gB2_0:=HB2_1.out.cell 0 rfl
  have gB2_1:=HB2_1.out.cell 1 rfl
  have gB2_2:=HB2_1.out.cell 2 rfl
  have gB2_3:=HB2_1.out.cell 3 rfl
  refine bodyPost_ret (v:=.agg #[.int .i64 (a.w * b.w - a.x * b.x - a.y * b.y - a.z * b.z),.int .i64 (a.w * b.x + a.x * b.w + a.y * b.z - a.z * b.y),.int .i64 (a.w * b.y - a.x * b.z + a.y * b.w + a.z * b.x),.int .i64 (a.w * b.z + a.x * b.y - a.y * b.x + a.z * b.w)]) (by simp [results,Tryz.results25,go_sem,gB2_0,gB2_1,gB2_2,gB2_3]) rfl ⟨rfl,HX1.out⟩

theorem lprod_as (a b q:Q4) (e:prod4 a b = q) (w:World) (g:Gd w) (hia:Q4In a) (hib:Q4In b):Calls Tryz.prog 25 #[.agg #[.int .i64 a.w,.int .i64 a.x,.int .i64 a.y,.int .i64 a.z],.agg #[.int .i64 b.w,.int .i64 b.x,.int .i64 b.y,.int .i64 b.z]] w (Ret w (.agg #[.int .i64 q.w,.int .i64 q.x,.int .i64 q.y,.int .i64 q.z])):=by subst e;exact lprod_c a b w g hia hib
set_option maxRecDepth 100000 in
set_option maxHeartbeats 2000000 in
theorem comp17_a (a b:Q4) (e:Int) (w:World) (g:Gd w) (hea:QErr a e) (he:e ≠ 0):Calls Tryz.prog 6 #[.agg #[.int .i64 a.w,.int .i64 a.x,.int .i64 a.y,.int .i64 a.z],.agg #[.int .i64 b.w,.int .i64 b.x,.int .i64 b.y,.int .i64 b.z]] w (Ret w (.bool true)):=by
  have HEA:=Lib.hid hea
  have HG:=Lib.hid g
  clear hea g
  have he_n:(e != 0) = true:=bne_iff_ne.2 he
  have he_e:(e == 0) = false:=beq_eq_false_iff_ne.2 he
  clear he
  go_enter Tryz.func6,Tryz.ntmps6
  go_wp2_with fail
  refine (known17_c _ (HG.out.ext (((Ext.refl w).alloc _).alloc _))).mono ?_;rintro e w1 ⟨rfl,e1⟩
  have HX1:Hid (Ext w w1):=Lib.hid ((((Ext.refl w).alloc _).alloc _).trans e1)
  have HB0_1:Hid (Blk w1 (w.heap.size) #[.int .i64 a.w,.int .i64 a.x,.int .i64 a.y,.int .i64 a.z] 22):=Lib.hid (Blk.ext ((Blk.new' (w:=_) (cs:=#[.int .i64 a.w,.int .i64 a.x,.int .i64 a.y,.int .i64 a.z]) (t:=22) (by first | rfl | (simp only [World.size_alloc];done) | (simp only [World.size_alloc];omega) | simp)).alloc _) e1)
  have HGEB0:Hid (w.heap.size ≤ w.heap.size):=Lib.hid (by first | omega | (simp only [];omega) | (simp;omega))
  clear e1
  have c0_0:=HB0_1.out.cell 0 rfl
  have c0_1:=HB0_1.out.cell 1 rfl
  have c0_2:=HB0_1.out.cell 2 rfl
  have c0_3:=HB0_1.out.cell 3 rfl
  go_wp2_with fail
  refine (lchk_l _ (HG.out.ext HX1.out) HEA.out).mono ?_;rintro e w2 ⟨rfl,e2⟩
  have HX2:Hid (Ext w w2):=Lib.hid (HX1.out.trans e2)
  clear e2 c0_0 c0_1 c0_2 c0_3
  go_wp2_with fail
  refine (known17_c _ (HG.out.ext HX2.out)).mono ?_;rintro e w3 ⟨rfl,e3⟩
  have HX3:Hid (Ext w w3):=Lib.hid (HX2.out.trans e3)
  clear e3
  go_wp2
  go_ret
  exact ⟨rfl,HX3.out⟩

set_option maxRecDepth 100000 in
set_option maxHeartbeats 2000000 in
theorem comp17_b (a b:Q4) (e:Int) (w:World) (g:Gd w) (hea:QErr a 0) (heb:QErr b e) (he:e ≠ 0):Calls Tryz.prog 6 #[.agg #[.int .i64 a.w,.int .i64 a.x,.int .i64 a.y,.int .i64 a.z],.agg #[.int .i64 b.w,.int .i64 b.x,.int .i64 b.y,.int .i64 b.z]] w (Ret w (.bool true)):=by
  have HEA:=Lib.hid hea
  have HEB:=Lib.hid heb
  have HG:=Lib.hid g
  clear hea heb g
  have he_n:(e != 0) = true:=bne_iff_ne.2 he
  have he_e:(e == 0) = false:=beq_eq_false_iff_ne.2 he
  clear he
  go_enter Tryz.func6,Tryz.ntmps6
  go_wp2_with fail
  refine (known17_c _ (HG.out.ext (((Ext.refl w).alloc _).alloc _))).mono ?_;rintro e w1 ⟨rfl,e1⟩
  have HX1:Hid (Ext w w1):=Lib.hid ((((Ext.refl w).alloc _).alloc _).trans e1)
  have HB0_1:Hid (Blk w1 (w.heap.size) #[.int .i64 a.w,.int .i64 a.x,.int .i64 a.y,.int .i64 a.z] 22):=Lib.hid (Blk.ext ((Blk.new' (w:=_) (cs:=#[.int .i64 a.w,.int .i64 a.x,.int .i64 a.y,.int .i64 a.z]) (t:=22) (by first | rfl | (simp only [World.size_alloc];done) | (simp only [World.size_alloc];omega) | simp)).alloc _) e1)
  have HB1_1:Hid (Blk w1 (w.heap.size + 1) #[.int .i64 b.w,.int .i64 b.x,.int .i64 b.y,.int .i64 b.z] 22):=Lib.hid (Blk.ext (Blk.new' (w:=_) (cs:=#[.int .i64 b.w,.int .i64 b.x,.int .i64 b.y,.int .i64 b.z]) (t:=22) (by first | rfl | (simp only [World.size_alloc];done) | (simp only [World.size_alloc];omega) | simp)) e1)
  have HGEB0:Hid (w.heap.size ≤ w.heap.size):=Lib.hid (by first | omega | (simp only [];omega) | (simp;omega))
  have HGEB1:Hid (w.heap.size ≤ w.heap.size + 1):=Lib.hid (by first | omega | (simp only [];omega) | (simp;omega))
  clear e1
  have c0_0:=HB0_1.out.cell 0 rfl
  have c0_1:=HB0_1.out.cell 1 rfl
  have c0_2:=HB0_1.out.cell 2 rfl
  have c0_3:=HB0_1.out.cell 3 rfl
  go_wp2_with fail
  refine (lchk_l _ (HG.out.ext HX1.out) HEA.out).mono ?_;rintro e w2 ⟨rfl,e2⟩
  have HX2:Hid (Ext w w2):=Lib.hid (HX1.out.trans e2)
  have HB1_2:=Lib.hid (Blk.ext HB1_1.out e2)
  clear e2 c0_0 c0_1 c0_2 c0_3
  have c1_0:=HB1_2.out.cell 0 rfl
  have c1_1:=HB1_2.out.cell 1 rfl
  have c1_2:=HB1_2.out.cell 2 rfl
  have c1_3:=HB1_2.out.cell 3 rfl
  go_wp2_with fail
  refine (lchk_l _ (HG.out.ext HX2.out) HEB.out).mono ?_;rintro e w3 ⟨rfl,e3⟩
  have HX3:Hid (Ext w w3):=Lib.hid (HX2.out.trans e3)
  clear e3 c1_0 c1_1 c1_2 c1_3
  go_wp2_with fail
  refine (known17_c _ (HG.out.ext HX3.out)).mono ?_;rintro e w4 ⟨rfl,e4⟩
  have HX4:Hid (Ext w w4):=Lib.hid (HX3.out.trans e4)
  clear e4
  go_wp2
  go_ret
  exact ⟨rfl,HX4.out⟩

set_option maxRecDepth 100000 in
set_option maxHeartbeats 8000000 in
theorem comp17_k0 (a b x y:Q4) (w:World) (g:Gd w) (hea:QErr a 0) (heb:QErr b 0) (hia:Q4In a) (hib:Q4In b) (hza:¬ a.zero) (hzb:¬ b.zero) (hx:prim4 a = x) (hy:prim4 b = y) (h0:10000 < max x.w (max (-x.w) (max y.w (-y.w)))):Calls Tryz.prog 6 #[.agg #[.int .i64 a.w,.int .i64 a.x,.int .i64 a.y,.int .i64 a.z],.agg #[.int .i64 b.w,.int .i64 b.x,.int .i64 b.y,.int .i64 b.z]] w (Ret w (.bool true)):=by
  have HEA:=Lib.hid hea
  have HEB:=Lib.hid heb
  have HIA:=Lib.hid hia
  have HIB:=Lib.hid hib
  have HZA:=Lib.hid hza
  have HZB:=Lib.hid hzb
  have HX9:=Lib.hid hx
  have HY9:=Lib.hid hy
  have HG:=Lib.hid g
  clear hea heb hia hib hza hzb hx hy g
  have mqw:=run_max4 x.w (-x.w) y.w (-y.w)
  have mqx:=run_max4 x.x (-x.x) y.x (-y.x)
  have mqy:=run_max4 x.y (-x.y) y.y (-y.y)
  have mqz:=run_max4 x.z (-x.z) y.z (-y.z)
  have HIX:Hid (Q4In x):=Lib.hid (HX9.out ▸ prim4_in HIA.out);have HIY:Hid (Q4In y):=Lib.hid (HY9.out ▸ prim4_in HIB.out)
  have ix:=HIX.out;have iy:=HIY.out;have bxw:=ix.w;have bxx:=ix.x;have bxy:=ix.y;have bxz:=ix.z;have byw:=iy.w;have byx:=iy.x;have byy:=iy.y;have byz:=iy.z;clear ix iy
  have m0_:decide ((10000:Int) < max x.w (max (-x.w) (max y.w (-y.w)))) = true:=decide_eq_true (by omega)
  clear h0
  go_enter Tryz.func6,Tryz.ntmps6
  go_wp2_with fail
  refine (known17_c _ (HG.out.ext (((Ext.refl w).alloc _).alloc _))).mono ?_;rintro e w1 ⟨rfl,e1⟩
  have HX1:Hid (Ext w w1):=Lib.hid ((((Ext.refl w).alloc _).alloc _).trans e1)
  have HB0_1:Hid (Blk w1 (w.heap.size) #[.int .i64 a.w,.int .i64 a.x,.int .i64 a.y,.int .i64 a.z] 22):=Lib.hid (Blk.ext ((Blk.new' (w:=_) (cs:=#[.int .i64 a.w,.int .i64 a.x,.int .i64 a.y,.int .i64 a.z]) (t:=22) (by first | rfl | (simp only [World.size_alloc];done) | (simp only [World.size_alloc];omega) | simp)).alloc _) e1)
  have HB1_1:Hid (Blk w1 (w.heap.size + 1) #[.int .i64 b.w,.int .i64 b.x,.int .i64 b.y,.int .i64 b.z] 22):=Lib.hid (Blk.ext (Blk.new' (w:=_) (cs:=#[.int .i64 b.w,.int .i64 b.x,.int .i64 b.y,.int .i64 b.z]) (t:=22) (by first | rfl | (simp only [World.size_alloc];done) | (simp only [World.size_alloc];omega) | simp)) e1)
  have HGEB0:Hid (w.heap.size ≤ w.heap.size):=Lib.hid (by first | omega | (simp only [];omega) | (simp;omega))
  have HGEB1:Hid (w.heap.size ≤ w.heap.size + 1):=Lib.hid (by first | omega | (simp only [];omega) | (simp;omega))
  clear e1
  have c0_0:=HB0_1.out.cell 0 rfl
  have c0_1:=HB0_1.out.cell 1 rfl
  have c0_2:=HB0_1.out.cell 2 rfl
  have c0_3:=HB0_1.out.cell 3 rfl
  go_wp2_with fail
  refine (lchk_l _ (HG.out.ext HX1.out) HEA.out).mono ?_;rintro e w2 ⟨rfl,e2⟩
  have HX2:Hid (Ext w w2):=Lib.hid (HX1.out.trans e2)
  have HB0_2:=Lib.hid (Blk.ext HB0_1.out e2)
  have HB1_2:=Lib.hid (Blk.ext HB1_1.out e2)
  clear e2 c0_0 c0_1 c0_2 c0_3
  have c1_0:=HB1_2.out.cell 0 rfl
  have c1_1:=HB1_2.out.cell 1 rfl
  have c1_2:=HB1_2.out.cell 2 rfl
  have c1_3:=HB1_2.out.cell 3 rfl
  go_wp2_with fail
  refine (lchk_l _ (HG.out.ext HX2.out) HEB.out).mono ?_;rintro e w3 ⟨rfl,e3⟩
  have HX3:Hid (Ext w w3):=Lib.hid (HX2.out.trans e3)
  have HB0_3:=Lib.hid (Blk.ext HB0_2.out e3)
  have HB1_3:=Lib.hid (Blk.ext HB1_2.out e3)
  clear e3 c1_0 c1_1 c1_2 c1_3
  go_wp2_with fail
  refine wp_name (fun W => Ext w W∧Blk W (w.heap.size) #[.int .i64 a.w,.int .i64 a.x,.int .i64 a.y,.int .i64 a.z] 22∧Blk W (w.heap.size + 1) #[.int .i64 b.w,.int .i64 b.x,.int .i64 b.y,.int .i64 b.z] 22) ⟨HX3.out,HB0_3.out,HB1_3.out⟩ ?_
  rintro w4 ⟨e4,bB0_4,bB1_4⟩
  have HX4:=Lib.hid e4;have HB0_4:=Lib.hid bB0_4;have HB1_4:=Lib.hid bB1_4
  clear e4 bB0_4 bB1_4
  refine region_lin [.val (.agg #[.int .i64 a.w,.int .i64 a.x,.int .i64 a.y,.int .i64 a.z]),.val (.agg #[.int .i64 x.w,.int .i64 x.x,.int .i64 x.y,.int .i64 x.z]),.val (.agg #[.int .i64 b.w,.int .i64 b.x,.int .i64 b.y,.int .i64 b.z]),.val (.agg #[.int .i64 y.w,.int .i64 y.x,.int .i64 y.y,.int .i64 y.z]),.mem (fun b_ => .pointer (some ⟨b_,0,none⟩)) #[.int .i64 0,.int .i64 0,.int .i64 0,.int .i64 0] 22 (Option.some 6),.mem (fun b_ => .pointer (some ⟨b_,0,none⟩)) #[.int .i64 0,.int .i64 0,.int .i64 0,.int .i64 0] 22 (Option.some 7),.put 4 #[.int .i64 x.w,.int .i64 x.x,.int .i64 x.y,.int .i64 x.z],.put 5 #[.int .i64 y.w,.int .i64 y.x,.int .i64 y.y,.int .i64 y.z]] (by kernel_rfl) (by kernel_rfl) (by kernel_rfl) ?_ (fun g4 w5 hx_ hm_ hne_ => ?_)
  · skip
    refine RnL.cons (fun g4 A_ W_ hs_ => ?_) ?_
    · have q2_:=(hs_.old 2 (by kernel_rfl):A_.tmps[2]?.getD undef = .pointer (some ⟨w.heap.size,0,none⟩))
      have cB0_0:=((HB0_4.out.drew.ext hs_.1)).cell 0 rfl
      have cB0_1:=((HB0_4.out.drew.ext hs_.1)).cell 1 rfl
      have cB0_2:=((HB0_4.out.drew.ext hs_.1)).cell 2 rfl
      have cB0_3:=((HB0_4.out.drew.ext hs_.1)).cell 3 rfl
      refine Rn.val fun K_ hK_ => ?_
      go_simp
      exact hK_.out _ (Ext.refl _)
    refine RnL.cons (fun g4 A_ W_ hs_ => ?_) ?_
    · have q25_:=hs_.val 0 rfl rfl rfl
      refine Rn.val fun K_ hK_ => ?_
      go_simp
      refine (lprim_as a x HX9.out _ (HG.out.ext (HX4.out.drew.trans hs_.1)) HIA.out.bd HZA.out).mono ?_;rintro e W9_ ⟨rfl,e9_⟩;exact hK_.out _ e9_
    refine RnL.cons (fun g4 A_ W_ hs_ => ?_) ?_
    · have q3_:=(hs_.old 3 (by kernel_rfl):A_.tmps[3]?.getD undef = .pointer (some ⟨w.heap.size + 1,0,none⟩))
      have cB1_0:=((HB1_4.out.drew.ext hs_.1)).cell 0 rfl
      have cB1_1:=((HB1_4.out.drew.ext hs_.1)).cell 1 rfl
      have cB1_2:=((HB1_4.out.drew.ext hs_.1)).cell 2 rfl
      have cB1_3:=((HB1_4.out.drew.ext hs_.1)).cell 3 rfl
      refine Rn.val fun K_ hK_ => ?_
      go_simp
      exact hK_.out _ (Ext.refl _)
    refine RnL.cons (fun g4 A_ W_ hs_ => ?_) ?_
    · have q27_:=hs_.val 2 rfl rfl rfl
      refine Rn.val fun K_ hK_ => ?_
      go_simp
      refine (lprim_as b y HY9.out _ (HG.out.ext (HX4.out.drew.trans hs_.1)) HIB.out.bd HZB.out).mono ?_;rintro e W9_ ⟨rfl,e9_⟩;exact hK_.out _ e9_
    refine RnL.cons (fun g4 A_ W_ hs_ => ?_) ?_
    · refine Rn.mem fun K_ hK_ => ?_
      go_simp
      exact hK_.out
    refine RnL.cons (fun g4 A_ W_ hs_ => ?_) ?_
    · refine Rn.mem fun K_ hK_ => ?_
      go_simp
      exact hK_.out
    refine RnL.cons (fun g4 A_ W_ hs_ => ?_) ?_
    · have q5_:=(hs_.mem 4 rfl rfl rfl).1
      have q26_:=hs_.val 1 rfl rfl rfl
      refine Rn.put (z:=#[.int .i64 0,.int .i64 0,.int .i64 0,.int .i64 0]) (t:=22) rfl fun hB K_ hK_ => ?_
      have c_0:=hB.cell 0 rfl;have f_0:=hB.free 0
      have c_1:=hB.cell 1 rfl;have f_1:=hB.free 1
      have c_2:=hB.cell 2 rfl;have f_2:=hB.free 2
      have c_3:=hB.cell 3 rfl;have f_3:=hB.free 3
      have HB:=Lib.hid hB;clear hB
      go_simp
      exact hK_.out _ (((((Only.refl _ _).set 0 _).set 1 _).set 2 _).set 3 _) ((((HB.out.set 0 _).set 1 _).set 2 _).set 3 _)
    refine RnL.cons (fun g4 A_ W_ hs_ => ?_) ?_
    · have q6_:=(hs_.mem 5 rfl rfl rfl).1
      have q28_:=hs_.val 3 rfl rfl rfl
      refine Rn.put (z:=#[.int .i64 0,.int .i64 0,.int .i64 0,.int .i64 0]) (t:=22) rfl fun hB K_ hK_ => ?_
      have c_0:=hB.cell 0 rfl;have f_0:=hB.free 0
      have c_1:=hB.cell 1 rfl;have f_1:=hB.free 1
      have c_2:=hB.cell 2 rfl;have f_2:=hB.free 2
      have c_3:=hB.cell 3 rfl;have f_3:=hB.free 3
      have HB:=Lib.hid hB;clear hB
      go_simp
      exact hK_.out _ (((((Only.refl _ _).set 0 _).set 1 _).set 2 _).set 3 _) ((((HB.out.set 0 _).set 1 _).set 2 _).set 3 _)
    exact RnL.nil
  simp only [fs,Kd.value,puts,Act.put,List.setIfInBounds_toArray,List.set_cons_zero,List.set_cons_succ,Nat.reduceAdd]
  have HX5:Hid (Ext w w5):=Lib.hid (HX4.out.drew.trans hx_)
  have HB2_5:Hid (Blk w5 (g4 4) #[.int .i64 x.w,.int .i64 x.x,.int .i64 x.y,.int .i64 x.z] 22):=Lib.hid (hm_ 4 _ _ _ _ rfl).2;have HGEB2:Hid (w.heap.size ≤ g4 4):=Lib.hid (Nat.le_trans HX4.out.size (hm_ 4 _ _ _ _ rfl).1)
  have HB3_5:Hid (Blk w5 (g4 5) #[.int .i64 y.w,.int .i64 y.x,.int .i64 y.y,.int .i64 y.z] 22):=Lib.hid (hm_ 5 _ _ _ _ rfl).2;have HGEB3:Hid (w.heap.size ≤ g4 5):=Lib.hid (Nat.le_trans HX4.out.size (hm_ 5 _ _ _ _ rfl).1)
  have HNEB2B3:Hid (g4 4 ≠ g4 5):=Lib.hid (hne_ 4 5 (by decide) ⟨_,_,_,_,rfl⟩ ⟨_,_,_,_,rfl⟩)
  clear hx_ hm_ hne_
  generalize g4 4 = i2 at *
  generalize g4 5 = i3 at *
  clear g4
  go_wp2_with fail
  refine wp_loop_rounds 1 ?_
  rw [rounds_succ]
  go_wp2_with fail
  refine wp_name (fun W => Ext w W∧Blk W (i2) #[.int .i64 x.w,.int .i64 x.x,.int .i64 x.y,.int .i64 x.z] 22∧Blk W (i3) #[.int .i64 y.w,.int .i64 y.x,.int .i64 y.y,.int .i64 y.z] 22) ⟨HX5.out,HB2_5.out,HB3_5.out⟩ ?_
  rintro w6 ⟨e6,bB2_6,bB3_6⟩
  have HX6:=Lib.hid e6;have HB2_6:=Lib.hid bB2_6;have HB3_6:=Lib.hid bB3_6
  clear e6 bB2_6 bB3_6
  refine region_lin [.val (.int .i64 0),.val (.pointer (some ⟨i2,0,none⟩)),.val (.int .i64 x.w),.val (.int .i64 0),.val (.pointer (some ⟨i2,0,none⟩)),.val (.int .i64 x.w),.val (.int .i64 (-x.w)),.val (.int .i64 0),.val (.pointer (some ⟨i3,0,none⟩)),.val (.int .i64 y.w),.val (.int .i64 0),.val (.pointer (some ⟨i3,0,none⟩)),.val (.int .i64 y.w),.val (.int .i64 (-y.w)),.val (.int .i64 (max x.w (max (-x.w) (max y.w (-y.w))))),.val (.bool true)] (by kernel_rfl) (by kernel_rfl) (by kernel_rfl) ?_ (fun g6 w7 hx_ hm_ hne_ => ?_)
  · skip
    refine RnL.cons (fun g6 A_ W_ hs_ => ?_) ?_
    · have q7_:=(hs_.old 7 (by kernel_rfl):A_.tmps[7]?.getD undef = .int .i64 0)
      refine Rn.val fun K_ hK_ => ?_
      go_simp
      exact hK_.out _ (Ext.refl _)
    refine RnL.cons (fun g6 A_ W_ hs_ => ?_) ?_
    · have q5_:=(hs_.old 5 (by kernel_rfl):A_.tmps[5]?.getD undef = .pointer (some ⟨i2,0,none⟩))
      have q33_:=hs_.val 0 rfl rfl rfl
      refine Rn.val fun K_ hK_ => ?_
      go_simp
      exact hK_.out _ (Ext.refl _)
    refine RnL.cons (fun g6 A_ W_ hs_ => ?_) ?_
    · have q34_:=hs_.val 1 rfl rfl rfl
      have cB2_0:=((HB2_6.out.drew.ext hs_.1)).cell 0 rfl
      refine Rn.val fun K_ hK_ => ?_
      go_simp
      exact hK_.out _ (Ext.refl _)
    refine RnL.cons (fun g6 A_ W_ hs_ => ?_) ?_
    · have q7_:=(hs_.old 7 (by kernel_rfl):A_.tmps[7]?.getD undef = .int .i64 0)
      refine Rn.val fun K_ hK_ => ?_
      go_simp
      exact hK_.out _ (Ext.refl _)
    refine RnL.cons (fun g6 A_ W_ hs_ => ?_) ?_
    · have q5_:=(hs_.old 5 (by kernel_rfl):A_.tmps[5]?.getD undef = .pointer (some ⟨i2,0,none⟩))
      have q36_:=hs_.val 3 rfl rfl rfl
      refine Rn.val fun K_ hK_ => ?_
      go_simp
      exact hK_.out _ (Ext.refl _)
    refine RnL.cons (fun g6 A_ W_ hs_ => ?_) ?_
    · have q37_:=hs_.val 4 rfl rfl rfl
      have cB2_0:=((HB2_6.out.drew.ext hs_.1)).cell 0 rfl
      refine Rn.val fun K_ hK_ => ?_
      go_simp
      exact hK_.out _ (Ext.refl _)
    refine RnL.cons (fun g6 A_ W_ hs_ => ?_) ?_
    · have q38_:=hs_.val 5 rfl rfl rfl
      refine Rn.val fun K_ hK_ => ?_
      go_simp
      try go_bits
      exact hK_.out _ (Ext.refl _)
    refine RnL.cons (fun g6 A_ W_ hs_ => ?_) ?_
    · have q7_:=(hs_.old 7 (by kernel_rfl):A_.tmps[7]?.getD undef = .int .i64 0)
      refine Rn.val fun K_ hK_ => ?_
      go_simp
      exact hK_.out _ (Ext.refl _)
    refine RnL.cons (fun g6 A_ W_ hs_ => ?_) ?_
    · have q6_:=(hs_.old 6 (by kernel_rfl):A_.tmps[6]?.getD undef = .pointer (some ⟨i3,0,none⟩))
      have q40_:=hs_.val 7 rfl rfl rfl
      refine Rn.val fun K_ hK_ => ?_
      go_simp
      exact hK_.out _ (Ext.refl _)
    refine RnL.cons (fun g6 A_ W_ hs_ => ?_) ?_
    · have q41_:=hs_.val 8 rfl rfl rfl
      have cB3_0:=((HB3_6.out.drew.ext hs_.1)).cell 0 rfl
      refine Rn.val fun K_ hK_ => ?_
      go_simp
      exact hK_.out _ (Ext.refl _)
    refine RnL.cons (fun g6 A_ W_ hs_ => ?_) ?_
    · have q7_:=(hs_.old 7 (by kernel_rfl):A_.tmps[7]?.getD undef = .int .i64 0)
      refine Rn.val fun K_ hK_ => ?_
      go_simp
      exact hK_.out _ (Ext.refl _)
    refine RnL.cons (fun g6 A_ W_ hs_ => ?_) ?_
    · have q6_:=(hs_.old 6 (by kernel_rfl):A_.tmps[6]?.getD undef = .pointer (some ⟨i3,0,none⟩))
      have q43_:=hs_.val 10 rfl rfl rfl
      refine Rn.val fun K_ hK_ => ?_
      go_simp
      exact hK_.out _ (Ext.refl _)
    refine RnL.cons (fun g6 A_ W_ hs_ => ?_) ?_
    · have q44_:=hs_.val 11 rfl rfl rfl
      have cB3_0:=((HB3_6.out.drew.ext hs_.1)).cell 0 rfl
      refine Rn.val fun K_ hK_ => ?_
      go_simp
      exact hK_.out _ (Ext.refl _)
    refine RnL.cons (fun g6 A_ W_ hs_ => ?_) ?_
    · have q45_:=hs_.val 12 rfl rfl rfl
      refine Rn.val fun K_ hK_ => ?_
      go_simp
      try go_bits
      exact hK_.out _ (Ext.refl _)
    refine RnL.cons (fun g6 A_ W_ hs_ => ?_) ?_
    · have q35_:=hs_.val 2 rfl rfl rfl
      have q39_:=hs_.val 6 rfl rfl rfl
      have q42_:=hs_.val 9 rfl rfl rfl
      have q46_:=hs_.val 13 rfl rfl rfl
      refine Rn.val fun K_ hK_ => ?_
      go_simp
      exact hK_.out _ (Ext.refl _)
    refine RnL.cons (fun g6 A_ W_ hs_ => ?_) ?_
    · have q47_:=hs_.val 14 rfl rfl rfl
      refine Rn.val fun K_ hK_ => ?_
      go_simp
      exact hK_.out _ (Ext.refl _)
    exact RnL.nil
  simp only [fs,Kd.value,puts,Act.put,List.setIfInBounds_toArray,List.set_cons_zero,List.set_cons_succ]
  have HX7:Hid (Ext w w7):=Lib.hid (HX6.out.drew.trans hx_)
  clear hx_ hm_ hne_
  go_wp2
  go_ret
  exact ⟨rfl,HX7.out⟩

set_option maxRecDepth 100000 in
set_option maxHeartbeats 8000000 in
theorem comp17_k1 (a b x y:Q4) (w:World) (g:Gd w) (hea:QErr a 0) (heb:QErr b 0) (hia:Q4In a) (hib:Q4In b) (hza:¬ a.zero) (hzb:¬ b.zero) (hx:prim4 a = x) (hy:prim4 b = y) (h0:¬ 10000 < max x.w (max (-x.w) (max y.w (-y.w)))) (h1:10000 < max x.x (max (-x.x) (max y.x (-y.x)))):Calls Tryz.prog 6 #[.agg #[.int .i64 a.w,.int .i64 a.x,.int .i64 a.y,.int .i64 a.z],.agg #[.int .i64 b.w,.int .i64 b.x,.int .i64 b.y,.int .i64 b.z]] w (Ret w (.bool true)):=by
  have HEA:=Lib.hid hea
  have HEB:=Lib.hid heb
  have HIA:=Lib.hid hia
  have HIB:=Lib.hid hib
  have HZA:=Lib.hid hza
  have HZB:=Lib.hid hzb
  have HX9:=Lib.hid hx
  have HY9:=Lib.hid hy
  have HG:=Lib.hid g
  clear hea heb hia hib hza hzb hx hy g
  have mqw:=run_max4 x.w (-x.w) y.w (-y.w)
  have mqx:=run_max4 x.x (-x.x) y.x (-y.x)
  have mqy:=run_max4 x.y (-x.y) y.y (-y.y)
  have mqz:=run_max4 x.z (-x.z) y.z (-y.z)
  have HIX:Hid (Q4In x):=Lib.hid (HX9.out ▸ prim4_in HIA.out);have HIY:Hid (Q4In y):=Lib.hid (HY9.out ▸ prim4_in HIB.out)
  have ix:=HIX.out;have iy:=HIY.out;have bxw:=ix.w;have bxx:=ix.x;have bxy:=ix.y;have bxz:=ix.z;have byw:=iy.w;have byx:=iy.x;have byy:=iy.y;have byz:=iy.z;clear ix iy
  have m0_:decide ((10000:Int) < max x.w (max (-x.w) (max y.w (-y.w)))) = false:=decide_eq_false (by omega)
  have m1_:decide ((10000:Int) < max x.x (max (-x.x) (max y.x (-y.x)))) = true:=decide_eq_true (by omega)
  clear h0 h1
  go_enter Tryz.func6,Tryz.ntmps6
  go_wp2_with fail
  refine (known17_c _ (HG.out.ext (((Ext.refl w).alloc _).alloc _))).mono ?_;rintro e w1 ⟨rfl,e1⟩
  have HX1:Hid (Ext w w1):=Lib.hid ((((Ext.refl w).alloc _).alloc _).trans e1)
  have HB0_1:Hid (Blk w1 (w.heap.size) #[.int .i64 a.w,.int .i64 a.x,.int .i64 a.y,.int .i64 a.z] 22):=Lib.hid (Blk.ext ((Blk.new' (w:=_) (cs:=#[.int .i64 a.w,.int .i64 a.x,.int .i64 a.y,.int .i64 a.z]) (t:=22) (by first | rfl | (simp only [World.size_alloc];done) | (simp only [World.size_alloc];omega) | simp)).alloc _) e1)
  have HB1_1:Hid (Blk w1 (w.heap.size + 1) #[.int .i64 b.w,.int .i64 b.x,.int .i64 b.y,.int .i64 b.z] 22):=Lib.hid (Blk.ext (Blk.new' (w:=_) (cs:=#[.int .i64 b.w,.int .i64 b.x,.int .i64 b.y,.int .i64 b.z]) (t:=22) (by first | rfl | (simp only [World.size_alloc];done) | (simp only [World.size_alloc];omega) | simp)) e1)
  have HGEB0:Hid (w.heap.size ≤ w.heap.size):=Lib.hid (by first | omega | (simp only [];omega) | (simp;omega))
  have HGEB1:Hid (w.heap.size ≤ w.heap.size + 1):=Lib.hid (by first | omega | (simp only [];omega) | (simp;omega))
  clear e1
  have c0_0:=HB0_1.out.cell 0 rfl
  have c0_1:=HB0_1.out.cell 1 rfl
  have c0_2:=HB0_1.out.cell 2 rfl
  have c0_3:=HB0_1.out.cell 3 rfl
  go_wp2_with fail
  refine (lchk_l _ (HG.out.ext HX1.out) HEA.out).mono ?_;rintro e w2 ⟨rfl,e2⟩
  have HX2:Hid (Ext w w2):=Lib.hid (HX1.out.trans e2)
  have HB0_2:=Lib.hid (Blk.ext HB0_1.out e2)
  have HB1_2:=Lib.hid (Blk.ext HB1_1.out e2)
  clear e2 c0_0 c0_1 c0_2 c0_3
  have c1_0:=HB1_2.out.cell 0 rfl
  have c1_1:=HB1_2.out.cell 1 rfl
  have c1_2:=HB1_2.out.cell 2 rfl
  have c1_3:=HB1_2.out.cell 3 rfl
  go_wp2_with fail
  refine (lchk_l _ (HG.out.ext HX2.out) HEB.out).mono ?_;rintro e w3 ⟨rfl,e3⟩
  have HX3:Hid (Ext w w3):=Lib.hid (HX2.out.trans e3)
  have HB0_3:=Lib.hid (Blk.ext HB0_2.out e3)
  have HB1_3:=Lib.hid (Blk.ext HB1_2.out e3)
  clear e3 c1_0 c1_1 c1_2 c1_3
  go_wp2_with fail
  refine wp_name (fun W => Ext w W∧Blk W (w.heap.size) #[.int .i64 a.w,.int .i64 a.x,.int .i64 a.y,.int .i64 a.z] 22∧Blk W (w.heap.size + 1) #[.int .i64 b.w,.int .i64 b.x,.int .i64 b.y,.int .i64 b.z] 22) ⟨HX3.out,HB0_3.out,HB1_3.out⟩ ?_
  rintro w4 ⟨e4,bB0_4,bB1_4⟩
  have HX4:=Lib.hid e4;have HB0_4:=Lib.hid bB0_4;have HB1_4:=Lib.hid bB1_4
  clear e4 bB0_4 bB1_4
  refine region_lin [.val (.agg #[.int .i64 a.w,.int .i64 a.x,.int .i64 a.y,.int .i64 a.z]),.val (.agg #[.int .i64 x.w,.int .i64 x.x,.int .i64 x.y,.int .i64 x.z]),.val (.agg #[.int .i64 b.w,.int .i64 b.x,.int .i64 b.y,.int .i64 b.z]),.val (.agg #[.int .i64 y.w,.int .i64 y.x,.int .i64 y.y,.int .i64 y.z]),.mem (fun b_ => .pointer (some ⟨b_,0,none⟩)) #[.int .i64 0,.int .i64 0,.int .i64 0,.int .i64 0] 22 (Option.some 6),.mem (fun b_ => .pointer (some ⟨b_,0,none⟩)) #[.int .i64 0,.int .i64 0,.int .i64 0,.int .i64 0] 22 (Option.some 7),.put 4 #[.int .i64 x.w,.int .i64 x.x,.int .i64 x.y,.int .i64 x.z],.put 5 #[.int .i64 y.w,.int .i64 y.x,.int .i64 y.y,.int .i64 y.z]] (by kernel_rfl) (by kernel_rfl) (by kernel_rfl) ?_ (fun g4 w5 hx_ hm_ hne_ => ?_)
  · skip
    refine RnL.cons (fun g4 A_ W_ hs_ => ?_) ?_
    · have q2_:=(hs_.old 2 (by kernel_rfl):A_.tmps[2]?.getD undef = .pointer (some ⟨w.heap.size,0,none⟩))
      have cB0_0:=((HB0_4.out.drew.ext hs_.1)).cell 0 rfl
      have cB0_1:=((HB0_4.out.drew.ext hs_.1)).cell 1 rfl
      have cB0_2:=((HB0_4.out.drew.ext hs_.1)).cell 2 rfl
      have cB0_3:=((HB0_4.out.drew.ext hs_.1)).cell 3 rfl
      refine Rn.val fun K_ hK_ => ?_
      go_simp
      exact hK_.out _ (Ext.refl _)
    refine RnL.cons (fun g4 A_ W_ hs_ => ?_) ?_
    · have q25_:=hs_.val 0 rfl rfl rfl
      refine Rn.val fun K_ hK_ => ?_
      go_simp
      refine (lprim_as a x HX9.out _ (HG.out.ext (HX4.out.drew.trans hs_.1)) HIA.out.bd HZA.out).mono ?_;rintro e W9_ ⟨rfl,e9_⟩;exact hK_.out _ e9_
    refine RnL.cons (fun g4 A_ W_ hs_ => ?_) ?_
    · have q3_:=(hs_.old 3 (by kernel_rfl):A_.tmps[3]?.getD undef = .pointer (some ⟨w.heap.size + 1,0,none⟩))
      have cB1_0:=((HB1_4.out.drew.ext hs_.1)).cell 0 rfl
      have cB1_1:=((HB1_4.out.drew.ext hs_.1)).cell 1 rfl
      have cB1_2:=((HB1_4.out.drew.ext hs_.1)).cell 2 rfl
      have cB1_3:=((HB1_4.out.drew.ext hs_.1)).cell 3 rfl
      refine Rn.val fun K_ hK_ => ?_
      go_simp
      exact hK_.out _ (Ext.refl _)
    refine RnL.cons (fun g4 A_ W_ hs_ => ?_) ?_
    · have q27_:=hs_.val 2 rfl rfl rfl
      refine Rn.val fun K_ hK_ => ?_
      go_simp
      refine (lprim_as b y HY9.out _ (HG.out.ext (HX4.out.drew.trans hs_.1)) HIB.out.bd HZB.out).mono ?_;rintro e W9_ ⟨rfl,e9_⟩;exact hK_.out _ e9_
    refine RnL.cons (fun g4 A_ W_ hs_ => ?_) ?_
    · refine Rn.mem fun K_ hK_ => ?_
      go_simp
      exact hK_.out
    refine RnL.cons (fun g4 A_ W_ hs_ => ?_) ?_
    · refine Rn.mem fun K_ hK_ => ?_
      go_simp
      exact hK_.out
    refine RnL.cons (fun g4 A_ W_ hs_ => ?_) ?_
    · have q5_:=(hs_.mem 4 rfl rfl rfl).1
      have q26_:=hs_.val 1 rfl rfl rfl
      refine Rn.put (z:=#[.int .i64 0,.int .i64 0,.int .i64 0,.int .i64 0]) (t:=22) rfl fun hB K_ hK_ => ?_
      have c_0:=hB.cell 0 rfl;have f_0:=hB.free 0
      have c_1:=hB.cell 1 rfl;have f_1:=hB.free 1
      have c_2:=hB.cell 2 rfl;have f_2:=hB.free 2
      have c_3:=hB.cell 3 rfl;have f_3:=hB.free 3
      have HB:=Lib.hid hB;clear hB
      go_simp
      exact hK_.out _ (((((Only.refl _ _).set 0 _).set 1 _).set 2 _).set 3 _) ((((HB.out.set 0 _).set 1 _).set 2 _).set 3 _)
    refine RnL.cons (fun g4 A_ W_ hs_ => ?_) ?_
    · have q6_:=(hs_.mem 5 rfl rfl rfl).1
      have q28_:=hs_.val 3 rfl rfl rfl
      refine Rn.put (z:=#[.int .i64 0,.int .i64 0,.int .i64 0,.int .i64 0]) (t:=22) rfl fun hB K_ hK_ => ?_
      have c_0:=hB.cell 0 rfl;have f_0:=hB.free 0
      have c_1:=hB.cell 1 rfl;have f_1:=hB.free 1
      have c_2:=hB.cell 2 rfl;have f_2:=hB.free 2
      have c_3:=hB.cell 3 rfl;have f_3:=hB.free 3
      have HB:=Lib.hid hB;clear hB
      go_simp
      exact hK_.out _ (((((Only.refl _ _).set 0 _).set 1 _).set 2 _).set 3 _) ((((HB.out.set 0 _).set 1 _).set 2 _).set 3 _)
    exact RnL.nil
  simp only [fs,Kd.value,puts,Act.put,List.setIfInBounds_toArray,List.set_cons_zero,List.set_cons_succ,Nat.reduceAdd]
  have HX5:Hid (Ext w w5):=Lib.hid (HX4.out.drew.trans hx_)
  have HB2_5:Hid (Blk w5 (g4 4) #[.int .i64 x.w,.int .i64 x.x,.int .i64 x.y,.int .i64 x.z] 22):=Lib.hid (hm_ 4 _ _ _ _ rfl).2;have HGEB2:Hid (w.heap.size ≤ g4 4):=Lib.hid (Nat.le_trans HX4.out.size (hm_ 4 _ _ _ _ rfl).1)
  have HB3_5:Hid (Blk w5 (g4 5) #[.int .i64 y.w,.int .i64 y.x,.int .i64 y.y,.int .i64 y.z] 22):=Lib.hid (hm_ 5 _ _ _ _ rfl).2;have HGEB3:Hid (w.heap.size ≤ g4 5):=Lib.hid (Nat.le_trans HX4.out.size (hm_ 5 _ _ _ _ rfl).1)
  have HNEB2B3:Hid (g4 4 ≠ g4 5):=Lib.hid (hne_ 4 5 (by decide) ⟨_,_,_,_,rfl⟩ ⟨_,_,_,_,rfl⟩)
  clear hx_ hm_ hne_
  generalize g4 4 = i2 at *
  generalize g4 5 = i3 at *
  clear g4
  go_wp2_with fail
  refine wp_loop_rounds 2 ?_
  rw [rounds_succ]
  go_wp2_with fail
  refine wp_name (fun W => Ext w W∧Blk W (i2) #[.int .i64 x.w,.int .i64 x.x,.int .i64 x.y,.int .i64 x.z] 22∧Blk W (i3) #[.int .i64 y.w,.int .i64 y.x,.int .i64 y.y,.int .i64 y.z] 22) ⟨HX5.out,HB2_5.out,HB3_5.out⟩ ?_
  rintro w6 ⟨e6,bB2_6,bB3_6⟩
  have HX6:=Lib.hid e6;have HB2_6:=Lib.hid bB2_6;have HB3_6:=Lib.hid bB3_6
  clear e6 bB2_6 bB3_6
  refine region_lin [.val (.int .i64 0),.val (.pointer (some ⟨i2,0,none⟩)),.val (.int .i64 x.w),.val (.int .i64 0),.val (.pointer (some ⟨i2,0,none⟩)),.val (.int .i64 x.w),.val (.int .i64 (-x.w)),.val (.int .i64 0),.val (.pointer (some ⟨i3,0,none⟩)),.val (.int .i64 y.w),.val (.int .i64 0),.val (.pointer (some ⟨i3,0,none⟩)),.val (.int .i64 y.w),.val (.int .i64 (-y.w)),.val (.int .i64 (max x.w (max (-x.w) (max y.w (-y.w))))),.val (.bool false)] (by kernel_rfl) (by kernel_rfl) (by kernel_rfl) ?_ (fun g6 w7 hx_ hm_ hne_ => ?_)
  · skip
    refine RnL.cons (fun g6 A_ W_ hs_ => ?_) ?_
    · have q7_:=(hs_.old 7 (by kernel_rfl):A_.tmps[7]?.getD undef = .int .i64 0)
      refine Rn.val fun K_ hK_ => ?_
      go_simp
      exact hK_.out _ (Ext.refl _)
    refine RnL.cons (fun g6 A_ W_ hs_ => ?_) ?_
    · have q5_:=(hs_.old 5 (by kernel_rfl):A_.tmps[5]?.getD undef = .pointer (some ⟨i2,0,none⟩))
      have q33_:=hs_.val 0 rfl rfl rfl
      refine Rn.val fun K_ hK_ => ?_
      go_simp
      exact hK_.out _ (Ext.refl _)
    refine RnL.cons (fun g6 A_ W_ hs_ => ?_) ?_
    · have q34_:=hs_.val 1 rfl rfl rfl
      have cB2_0:=((HB2_6.out.drew.ext hs_.1)).cell 0 rfl
      refine Rn.val fun K_ hK_ => ?_
      go_simp
      exact hK_.out _ (Ext.refl _)
    refine RnL.cons (fun g6 A_ W_ hs_ => ?_) ?_
    · have q7_:=(hs_.old 7 (by kernel_rfl):A_.tmps[7]?.getD undef = .int .i64 0)
      refine Rn.val fun K_ hK_ => ?_
      go_simp
      exact hK_.out _ (Ext.refl _)
    refine RnL.cons (fun g6 A_ W_ hs_ => ?_) ?_
    · have q5_:=(hs_.old 5 (by kernel_rfl):A_.tmps[5]?.getD undef = .pointer (some ⟨i2,0,none⟩))
      have q36_:=hs_.val 3 rfl rfl rfl
      refine Rn.val fun K_ hK_ => ?_
      go_simp
      exact hK_.out _ (Ext.refl _)
    refine RnL.cons (fun g6 A_ W_ hs_ => ?_) ?_
    · have q37_:=hs_.val 4 rfl rfl rfl
      have cB2_0:=((HB2_6.out.drew.ext hs_.1)).cell 0 rfl
      refine Rn.val fun K_ hK_ => ?_
      go_simp
      exact hK_.out _ (Ext.refl _)
    refine RnL.cons (fun g6 A_ W_ hs_ => ?_) ?_
    · have q38_:=hs_.val 5 rfl rfl rfl
      refine Rn.val fun K_ hK_ => ?_
      go_simp
      try go_bits
      exact hK_.out _ (Ext.refl _)
    refine RnL.cons (fun g6 A_ W_ hs_ => ?_) ?_
    · have q7_:=(hs_.old 7 (by kernel_rfl):A_.tmps[7]?.getD undef = .int .i64 0)
      refine Rn.val fun K_ hK_ => ?_
      go_simp
      exact hK_.out _ (Ext.refl _)
    refine RnL.cons (fun g6 A_ W_ hs_ => ?_) ?_
    · have q6_:=(hs_.old 6 (by kernel_rfl):A_.tmps[6]?.getD undef = .pointer (some ⟨i3,0,none⟩))
      have q40_:=hs_.val 7 rfl rfl rfl
      refine Rn.val fun K_ hK_ => ?_
      go_simp
      exact hK_.out _ (Ext.refl _)
    refine RnL.cons (fun g6 A_ W_ hs_ => ?_) ?_
    · have q41_:=hs_.val 8 rfl rfl rfl
      have cB3_0:=((HB3_6.out.drew.ext hs_.1)).cell 0 rfl
      refine Rn.val fun K_ hK_ => ?_
      go_simp
      exact hK_.out _ (Ext.refl _)
    refine RnL.cons (fun g6 A_ W_ hs_ => ?_) ?_
    · have q7_:=(hs_.old 7 (by kernel_rfl):A_.tmps[7]?.getD undef = .int .i64 0)
      refine Rn.val fun K_ hK_ => ?_
      go_simp
      exact hK_.out _ (Ext.refl _)
    refine RnL.cons (fun g6 A_ W_ hs_ => ?_) ?_
    · have q6_:=(hs_.old 6 (by kernel_rfl):A_.tmps[6]?.getD undef = .pointer (some ⟨i3,0,none⟩))
      have q43_:=hs_.val 10 rfl rfl rfl
      refine Rn.val fun K_ hK_ => ?_
      go_simp
      exact hK_.out _ (Ext.refl _)
    refine RnL.cons (fun g6 A_ W_ hs_ => ?_) ?_
    · have q44_:=hs_.val 11 rfl rfl rfl
      have cB3_0:=((HB3_6.out.drew.ext hs_.1)).cell 0 rfl
      refine Rn.val fun K_ hK_ => ?_
      go_simp
      exact hK_.out _ (Ext.refl _)
    refine RnL.cons (fun g6 A_ W_ hs_ => ?_) ?_
    · have q45_:=hs_.val 12 rfl rfl rfl
      refine Rn.val fun K_ hK_ => ?_
      go_simp
      try go_bits
      exact hK_.out _ (Ext.refl _)
    refine RnL.cons (fun g6 A_ W_ hs_ => ?_) ?_
    · have q35_:=hs_.val 2 rfl rfl rfl
      have q39_:=hs_.val 6 rfl rfl rfl
      have q42_:=hs_.val 9 rfl rfl rfl
      have q46_:=hs_.val 13 rfl rfl rfl
      refine Rn.val fun K_ hK_ => ?_
      go_simp
      exact hK_.out _ (Ext.refl _)
    refine RnL.cons (fun g6 A_ W_ hs_ => ?_) ?_
    · have q47_:=hs_.val 14 rfl rfl rfl
      refine Rn.val fun K_ hK_ => ?_
      go_simp
      exact hK_.out _ (Ext.refl _)
    exact RnL.nil
  simp only [fs,Kd.value,puts,Act.put,List.setIfInBounds_toArray,List.set_cons_zero,List.set_cons_succ]
  have HX7:Hid (Ext w w7):=Lib.hid (HX6.out.drew.trans hx_)
  have HB2_7:=Lib.hid (HB2_6.out.drew.ext hx_)
  have HB3_7:=Lib.hid (HB3_6.out.drew.ext hx_)
  clear hx_ hm_ hne_
  go_wp2_with fail
  rw [rounds_succ]
  go_wp2_with fail
  refine wp_name (fun W => Ext w W∧Blk W (i2) #[.int .i64 x.w,.int .i64 x.x,.int .i64 x.y,.int .i64 x.z] 22∧Blk W (i3) #[.int .i64 y.w,.int .i64 y.x,.int .i64 y.y,.int .i64 y.z] 22) ⟨HX7.out,HB2_7.out,HB3_7.out⟩ ?_
  rintro w8 ⟨e8,bB2_8,bB3_8⟩
  have HX8:=Lib.hid e8;have HB2_8:=Lib.hid bB2_8;have HB3_8:=Lib.hid bB3_8
  clear e8 bB2_8 bB3_8
  refine region_lin [.val (.int .i64 1),.val (.pointer (some ⟨i2,1,none⟩)),.val (.int .i64 x.x),.val (.int .i64 1),.val (.pointer (some ⟨i2,1,none⟩)),.val (.int .i64 x.x),.val (.int .i64 (-x.x)),.val (.int .i64 1),.val (.pointer (some ⟨i3,1,none⟩)),.val (.int .i64 y.x),.val (.int .i64 1),.val (.pointer (some ⟨i3,1,none⟩)),.val (.int .i64 y.x),.val (.int .i64 (-y.x)),.val (.int .i64 (max x.x (max (-x.x) (max y.x (-y.x))))),.val (.bool true)] (by kernel_rfl) (by kernel_rfl) (by kernel_rfl) ?_ (fun g8 w9 hx_ hm_ hne_ => ?_)
  · skip
    refine RnL.cons (fun g8 A_ W_ hs_ => ?_) ?_
    · have q7_:=(hs_.old 7 (by kernel_rfl):A_.tmps[7]?.getD undef = .int .i64 1)
      refine Rn.val fun K_ hK_ => ?_
      go_simp
      exact hK_.out _ (Ext.refl _)
    refine RnL.cons (fun g8 A_ W_ hs_ => ?_) ?_
    · have q5_:=(hs_.old 5 (by kernel_rfl):A_.tmps[5]?.getD undef = .pointer (some ⟨i2,0,none⟩))
      have q33_:=hs_.val 0 rfl rfl rfl
      refine Rn.val fun K_ hK_ => ?_
      go_simp
      exact hK_.out _ (Ext.refl _)
    refine RnL.cons (fun g8 A_ W_ hs_ => ?_) ?_
    · have q34_:=hs_.val 1 rfl rfl rfl
      have cB2_1:=((HB2_8.out.drew.ext hs_.1)).cell 1 rfl
      refine Rn.val fun K_ hK_ => ?_
      go_simp
      exact hK_.out _ (Ext.refl _)
    refine RnL.cons (fun g8 A_ W_ hs_ => ?_) ?_
    · have q7_:=(hs_.old 7 (by kernel_rfl):A_.tmps[7]?.getD undef = .int .i64 1)
      refine Rn.val fun K_ hK_ => ?_
      go_simp
      exact hK_.out _ (Ext.refl _)
    refine RnL.cons (fun g8 A_ W_ hs_ => ?_) ?_
    · have q5_:=(hs_.old 5 (by kernel_rfl):A_.tmps[5]?.getD undef = .pointer (some ⟨i2,0,none⟩))
      have q36_:=hs_.val 3 rfl rfl rfl
      refine Rn.val fun K_ hK_ => ?_
      go_simp
      exact hK_.out _ (Ext.refl _)
    refine RnL.cons (fun g8 A_ W_ hs_ => ?_) ?_
    · have q37_:=hs_.val 4 rfl rfl rfl
      have cB2_1:=((HB2_8.out.drew.ext hs_.1)).cell 1 rfl
      refine Rn.val fun K_ hK_ => ?_
      go_simp
      exact hK_.out _ (Ext.refl _)
    refine RnL.cons (fun g8 A_ W_ hs_ => ?_) ?_
    · have q38_:=hs_.val 5 rfl rfl rfl
      refine Rn.val fun K_ hK_ => ?_
      go_simp
      try go_bits
      exact hK_.out _ (Ext.refl _)
    refine RnL.cons (fun g8 A_ W_ hs_ => ?_) ?_
    · have q7_:=(hs_.old 7 (by kernel_rfl):A_.tmps[7]?.getD undef = .int .i64 1)
      refine Rn.val fun K_ hK_ => ?_
      go_simp
      exact hK_.out _ (Ext.refl _)
    refine RnL.cons (fun g8 A_ W_ hs_ => ?_) ?_
    · have q6_:=(hs_.old 6 (by kernel_rfl):A_.tmps[6]?.getD undef = .pointer (some ⟨i3,0,none⟩))
      have q40_:=hs_.val 7 rfl rfl rfl
      refine Rn.val fun K_ hK_ => ?_
      go_simp
      exact hK_.out _ (Ext.refl _)
    refine RnL.cons (fun g8 A_ W_ hs_ => ?_) ?_
    · have q41_:=hs_.val 8 rfl rfl rfl
      have cB3_1:=((HB3_8.out.drew.ext hs_.1)).cell 1 rfl
      refine Rn.val fun K_ hK_ => ?_
      go_simp
      exact hK_.out _ (Ext.refl _)
    refine RnL.cons (fun g8 A_ W_ hs_ => ?_) ?_
    · have q7_:=(hs_.old 7 (by kernel_rfl):A_.tmps[7]?.getD undef = .int .i64 1)
      refine Rn.val fun K_ hK_ => ?_
      go_simp
      exact hK_.out _ (Ext.refl _)
    refine RnL.cons (fun g8 A_ W_ hs_ => ?_) ?_
    · have q6_:=(hs_.old 6 (by kernel_rfl):A_.tmps[6]?.getD undef = .pointer (some ⟨i3,0,none⟩))
      have q43_:=hs_.val 10 rfl rfl rfl
      refine Rn.val fun K_ hK_ => ?_
      go_simp
      exact hK_.out _ (Ext.refl _)
    refine RnL.cons (fun g8 A_ W_ hs_ => ?_) ?_
    · have q44_:=hs_.val 11 rfl rfl rfl
      have cB3_1:=((HB3_8.out.drew.ext hs_.1)).cell 1 rfl
      refine Rn.val fun K_ hK_ => ?_
      go_simp
      exact hK_.out _ (Ext.refl _)
    refine RnL.cons (fun g8 A_ W_ hs_ => ?_) ?_
    · have q45_:=hs_.val 12 rfl rfl rfl
      refine Rn.val fun K_ hK_ => ?_
      go_simp
      try go_bits
      exact hK_.out _ (Ext.refl _)
    refine RnL.cons (fun g8 A_ W_ hs_ => ?_) ?_
    · have q35_:=hs_.val 2 rfl rfl rfl
      have q39_:=hs_.val 6 rfl rfl rfl
      have q42_:=hs_.val 9 rfl rfl rfl
      have q46_:=hs_.val 13 rfl rfl rfl
      refine Rn.val fun K_ hK_ => ?_
      go_simp
      exact hK_.out _ (Ext.refl _)
    refine RnL.cons (fun g8 A_ W_ hs_ => ?_) ?_
    · have q47_:=hs_.val 14 rfl rfl rfl
      refine Rn.val fun K_ hK_ => ?_
      go_simp
      exact hK_.out _ (Ext.refl _)
    exact RnL.nil
  simp only [fs,Kd.value,puts,Act.put,List.setIfInBounds_toArray,List.set_cons_zero,List.set_cons_succ]
  have HX9:Hid (Ext w w9):=Lib.hid (HX8.out.drew.trans hx_)
  clear hx_ hm_ hne_
  go_wp2
  go_ret
  exact ⟨rfl,HX9.out⟩

set_option maxRecDepth 100000 in
set_option maxHeartbeats 8000000 in
theorem comp17_k2 (a b x y:Q4) (w:World) (g:Gd w) (hea:QErr a 0) (heb:QErr b 0) (hia:Q4In a) (hib:Q4In b) (hza:¬ a.zero) (hzb:¬ b.zero) (hx:prim4 a = x) (hy:prim4 b = y) (h0:¬ 10000 < max x.w (max (-x.w) (max y.w (-y.w)))) (h1:¬ 10000 < max x.x (max (-x.x) (max y.x (-y.x)))) (h2:10000 < max x.y (max (-x.y) (max y.y (-y.y)))):Calls Tryz.prog 6 #[.agg #[.int .i64 a.w,.int .i64 a.x,.int .i64 a.y,.int .i64 a.z],.agg #[.int .i64 b.w,.int .i64 b.x,.int .i64 b.y,.int .i64 b.z]] w (Ret w (.bool true)):=by
  have HEA:=Lib.hid hea
  have HEB:=Lib.hid heb
  have HIA:=Lib.hid hia
  have HIB:=Lib.hid hib
  have HZA:=Lib.hid hza
  have HZB:=Lib.hid hzb
  have HX9:=Lib.hid hx
  have HY9:=Lib.hid hy
  have HG:=Lib.hid g
  clear hea heb hia hib hza hzb hx hy g
  have mqw:=run_max4 x.w (-x.w) y.w (-y.w)
  have mqx:=run_max4 x.x (-x.x) y.x (-y.x)
  have mqy:=run_max4 x.y (-x.y) y.y (-y.y)
  have mqz:=run_max4 x.z (-x.z) y.z (-y.z)
  have HIX:Hid (Q4In x):=Lib.hid (HX9.out ▸ prim4_in HIA.out);have HIY:Hid (Q4In y):=Lib.hid (HY9.out ▸ prim4_in HIB.out)
  have ix:=HIX.out;have iy:=HIY.out;have bxw:=ix.w;have bxx:=ix.x;have bxy:=ix.y;have bxz:=ix.z;have byw:=iy.w;have byx:=iy.x;have byy:=iy.y;have byz:=iy.z;clear ix iy
  have m0_:decide ((10000:Int) < max x.w (max (-x.w) (max y.w (-y.w)))) = false:=decide_eq_false (by omega)
  have m1_:decide ((10000:Int) < max x.x (max (-x.x) (max y.x (-y.x)))) = false:=decide_eq_false (by omega)
  have m2_:decide ((10000:Int) < max x.y (max (-x.y) (max y.y (-y.y)))) = true:=decide_eq_true (by omega)
  clear h0 h1 h2
  go_enter Tryz.func6,Tryz.ntmps6
  go_wp2_with fail
  refine (known17_c _ (HG.out.ext (((Ext.refl w).alloc _).alloc _))).mono ?_;rintro e w1 ⟨rfl,e1⟩
  have HX1:Hid (Ext w w1):=Lib.hid ((((Ext.refl w).alloc _).alloc _).trans e1)
  have HB0_1:Hid (Blk w1 (w.heap.size) #[.int .i64 a.w,.int .i64 a.x,.int .i64 a.y,.int .i64 a.z] 22):=Lib.hid (Blk.ext ((Blk.new' (w:=_) (cs:=#[.int .i64 a.w,.int .i64 a.x,.int .i64 a.y,.int .i64 a.z]) (t:=22) (by first | rfl | (simp only [World.size_alloc];done) | (simp only [World.size_alloc];omega) | simp)).alloc _) e1)
  have HB1_1:Hid (Blk w1 (w.heap.size + 1) #[.int .i64 b.w,.int .i64 b.x,.int .i64 b.y,.int .i64 b.z] 22):=Lib.hid (Blk.ext (Blk.new' (w:=_) (cs:=#[.int .i64 b.w,.int .i64 b.x,.int .i64 b.y,.int .i64 b.z]) (t:=22) (by first | rfl | (simp only [World.size_alloc];done) | (simp only [World.size_alloc];omega) | simp)) e1)
  have HGEB0:Hid (w.heap.size ≤ w.heap.size):=Lib.hid (by first | omega | (simp only [];omega) | (simp;omega))
  have HGEB1:Hid (w.heap.size ≤ w.heap.size + 1):=Lib.hid (by first | omega | (simp only [];omega) | (simp;omega))
  clear e1
  have c0_0:=HB0_1.out.cell 0 rfl
  have c0_1:=HB0_1.out.cell 1 rfl
  have c0_2:=HB0_1.out.cell 2 rfl
  have c0_3:=HB0_1.out.cell 3 rfl
  go_wp2_with fail
  refine (lchk_l _ (HG.out.ext HX1.out) HEA.out).mono ?_;rintro e w2 ⟨rfl,e2⟩
  have HX2:Hid (Ext w w2):=Lib.hid (HX1.out.trans e2)
  have HB0_2:=Lib.hid (Blk.ext HB0_1.out e2)
  have HB1_2:=Lib.hid (Blk.ext HB1_1.out e2)
  clear e2 c0_0 c0_1 c0_2 c0_3
  have c1_0:=HB1_2.out.cell 0 rfl
  have c1_1:=HB1_2.out.cell 1 rfl
  have c1_2:=HB1_2.out.cell 2 rfl
  have c1_3:=HB1_2.out.cell 3 rfl
  go_wp2_with fail
  refine (lchk_l _ (HG.out.ext HX2.out) HEB.out).mono ?_;rintro e w3 ⟨rfl,e3⟩
  have HX3:Hid (Ext w w3):=Lib.hid (HX2.out.trans e3)
  have HB0_3:=Lib.hid (Blk.ext HB0_2.out e3)
  have HB1_3:=Lib.hid (Blk.ext HB1_2.out e3)
  clear e3 c1_0 c1_1 c1_2 c1_3
  go_wp2_with fail
  refine wp_name (fun W => Ext w W∧Blk W (w.heap.size) #[.int .i64 a.w,.int .i64 a.x,.int .i64 a.y,.int .i64 a.z] 22∧Blk W (w.heap.size + 1) #[.int .i64 b.w,.int .i64 b.x,.int .i64 b.y,.int .i64 b.z] 22) ⟨HX3.out,HB0_3.out,HB1_3.out⟩ ?_
  rintro w4 ⟨e4,bB0_4,bB1_4⟩
  have HX4:=Lib.hid e4;have HB0_4:=Lib.hid bB0_4;have HB1_4:=Lib.hid bB1_4
  clear e4 bB0_4 bB1_4
  refine region_lin [.val (.agg #[.int .i64 a.w,.int .i64 a.x,.int .i64 a.y,.int .i64 a.z]),.val (.agg #[.int .i64 x.w,.int .i64 x.x,.int .i64 x.y,.int .i64 x.z]),.val (.agg #[.int .i64 b.w,.int .i64 b.x,.int .i64 b.y,.int .i64 b.z]),.val (.agg #[.int .i64 y.w,.int .i64 y.x,.int .i64 y.y,.int .i64 y.z]),.mem (fun b_ => .pointer (some ⟨b_,0,none⟩)) #[.int .i64 0,.int .i64 0,.int .i64 0,.int .i64 0] 22 (Option.some 6),.mem (fun b_ => .pointer (some ⟨b_,0,none⟩)) #[.int .i64 0,.int .i64 0,.int .i64 0,.int .i64 0] 22 (Option.some 7),.put 4 #[.int .i64 x.w,.int .i64 x.x,.int .i64 x.y,.int .i64 x.z],.put 5 #[.int .i64 y.w,.int .i64 y.x,.int .i64 y.y,.int .i64 y.z]] (by kernel_rfl) (by kernel_rfl) (by kernel_rfl) ?_ (fun g4 w5 hx_ hm_ hne_ => ?_)
  · skip
    refine RnL.cons (fun g4 A_ W_ hs_ => ?_) ?_
    · have q2_:=(hs_.old 2 (by kernel_rfl):A_.tmps[2]?.getD undef = .pointer (some ⟨w.heap.size,0,none⟩))
      have cB0_0:=((HB0_4.out.drew.ext hs_.1)).cell 0 rfl
      have cB0_1:=((HB0_4.out.drew.ext hs_.1)).cell 1 rfl
      have cB0_2:=((HB0_4.out.drew.ext hs_.1)).cell 2 rfl
      have cB0_3:=((HB0_4.out.drew.ext hs_.1)).cell 3 rfl
      refine Rn.val fun K_ hK_ => ?_
      go_simp
      exact hK_.out _ (Ext.refl _)
    refine RnL.cons (fun g4 A_ W_ hs_ => ?_) ?_
    · have q25_:=hs_.val 0 rfl rfl rfl
      refine Rn.val fun K_ hK_ => ?_
      go_simp
      refine (lprim_as a x HX9.out _ (HG.out.ext (HX4.out.drew.trans hs_.1)) HIA.out.bd HZA.out).mono ?_;rintro e W9_ ⟨rfl,e9_⟩;exact hK_.out _ e9_
    refine RnL.cons (fun g4 A_ W_ hs_ => ?_) ?_
    · have q3_:=(hs_.old 3 (by kernel_rfl):A_.tmps[3]?.getD undef = .pointer (some ⟨w.heap.size + 1,0,none⟩))
      have cB1_0:=((HB1_4.out.drew.ext hs_.1)).cell 0 rfl
      have cB1_1:=((HB1_4.out.drew.ext hs_.1)).cell 1 rfl
      have cB1_2:=((HB1_4.out.drew.ext hs_.1)).cell 2 rfl
      have cB1_3:=((HB1_4.out.drew.ext hs_.1)).cell 3 rfl
      refine Rn.val fun K_ hK_ => ?_
      go_simp
      exact hK_.out _ (Ext.refl _)
    refine RnL.cons (fun g4 A_ W_ hs_ => ?_) ?_
    · have q27_:=hs_.val 2 rfl rfl rfl
      refine Rn.val fun K_ hK_ => ?_
      go_simp
      refine (lprim_as b y HY9.out _ (HG.out.ext (HX4.out.drew.trans hs_.1)) HIB.out.bd HZB.out).mono ?_;rintro e W9_ ⟨rfl,e9_⟩;exact hK_.out _ e9_
    refine RnL.cons (fun g4 A_ W_ hs_ => ?_) ?_
    · refine Rn.mem fun K_ hK_ => ?_
      go_simp
      exact hK_.out
    refine RnL.cons (fun g4 A_ W_ hs_ => ?_) ?_
    · refine Rn.mem fun K_ hK_ => ?_
      go_simp
      exact hK_.out
    refine RnL.cons (fun g4 A_ W_ hs_ => ?_) ?_
    · have q5_:=(hs_.mem 4 rfl rfl rfl).1
      have q26_:=hs_.val 1 rfl rfl rfl
      refine Rn.put (z:=#[.int .i64 0,.int .i64 0,.int .i64 0,.int .i64 0]) (t:=22) rfl fun hB K_ hK_ => ?_
      have c_0:=hB.cell 0 rfl;have f_0:=hB.free 0
      have c_1:=hB.cell 1 rfl;have f_1:=hB.free 1
      have c_2:=hB.cell 2 rfl;have f_2:=hB.free 2
      have c_3:=hB.cell 3 rfl;have f_3:=hB.free 3
      have HB:=Lib.hid hB;clear hB
      go_simp
      exact hK_.out _ (((((Only.refl _ _).set 0 _).set 1 _).set 2 _).set 3 _) ((((HB.out.set 0 _).set 1 _).set 2 _).set 3 _)
    refine RnL.cons (fun g4 A_ W_ hs_ => ?_) ?_
    · have q6_:=(hs_.mem 5 rfl rfl rfl).1
      have q28_:=hs_.val 3 rfl rfl rfl
      refine Rn.put (z:=#[.int .i64 0,.int .i64 0,.int .i64 0,.int .i64 0]) (t:=22) rfl fun hB K_ hK_ => ?_
      have c_0:=hB.cell 0 rfl;have f_0:=hB.free 0
      have c_1:=hB.cell 1 rfl;have f_1:=hB.free 1
      have c_2:=hB.cell 2 rfl;have f_2:=hB.free 2
      have c_3:=hB.cell 3 rfl;have f_3:=hB.free 3
      have HB:=Lib.hid hB;clear hB
      go_simp
      exact hK_.out _ (((((Only.refl _ _).set 0 _).set 1 _).set 2 _).set 3 _) ((((HB.out.set 0 _).set 1 _).set 2 _).set 3 _)
    exact RnL.nil
  simp only [fs,Kd.value,puts,Act.put,List.setIfInBounds_toArray,List.set_cons_zero,List.set_cons_succ,Nat.reduceAdd]
  have HX5:Hid (Ext w w5):=Lib.hid (HX4.out.drew.trans hx_)
  have HB2_5:Hid (Blk w5 (g4 4) #[.int .i64 x.w,.int .i64 x.x,.int .i64 x.y,.int .i64 x.z] 22):=Lib.hid (hm_ 4 _ _ _ _ rfl).2;have HGEB2:Hid (w.heap.size ≤ g4 4):=Lib.hid (Nat.le_trans HX4.out.size (hm_ 4 _ _ _ _ rfl).1)
  have HB3_5:Hid (Blk w5 (g4 5) #[.int .i64 y.w,.int .i64 y.x,.int .i64 y.y,.int .i64 y.z] 22):=Lib.hid (hm_ 5 _ _ _ _ rfl).2;have HGEB3:Hid (w.heap.size ≤ g4 5):=Lib.hid (Nat.le_trans HX4.out.size (hm_ 5 _ _ _ _ rfl).1)
  have HNEB2B3:Hid (g4 4 ≠ g4 5):=Lib.hid (hne_ 4 5 (by decide) ⟨_,_,_,_,rfl⟩ ⟨_,_,_,_,rfl⟩)
  clear hx_ hm_ hne_
  generalize g4 4 = i2 at *
  generalize g4 5 = i3 at *
  clear g4
  go_wp2_with fail
  refine wp_loop_rounds 3 ?_
  rw [rounds_succ]
  go_wp2_with fail
  refine wp_name (fun W => Ext w W∧Blk W (i2) #[.int .i64 x.w,.int .i64 x.x,.int .i64 x.y,.int .i64 x.z] 22∧Blk W (i3) #[.int .i64 y.w,.int .i64 y.x,.int .i64 y.y,.int .i64 y.z] 22) ⟨HX5.out,HB2_5.out,HB3_5.out⟩ ?_
  rintro w6 ⟨e6,bB2_6,bB3_6⟩
  have HX6:=Lib.hid e6;have HB2_6:=Lib.hid bB2_6;have HB3_6:=Lib.hid bB3_6
  clear e6 bB2_6 bB3_6
  refine region_lin [.val (.int .i64 0),.val (.pointer (some ⟨i2,0,none⟩)),.val (.int .i64 x.w),.val (.int .i64 0),.val (.pointer (some ⟨i2,0,none⟩)),.val (.int .i64 x.w),.val (.int .i64 (-x.w)),.val (.int .i64 0),.val (.pointer (some ⟨i3,0,none⟩)),.val (.int .i64 y.w),.val (.int .i64 0),.val (.pointer (some ⟨i3,0,none⟩)),.val (.int .i64 y.w),.val (.int .i64 (-y.w)),.val (.int .i64 (max x.w (max (-x.w) (max y.w (-y.w))))),.val (.bool false)] (by kernel_rfl) (by kernel_rfl) (by kernel_rfl) ?_ (fun g6 w7 hx_ hm_ hne_ => ?_)
  · skip
    refine RnL.cons (fun g6 A_ W_ hs_ => ?_) ?_
    · have q7_:=(hs_.old 7 (by kernel_rfl):A_.tmps[7]?.getD undef = .int .i64 0)
      refine Rn.val fun K_ hK_ => ?_
      go_simp
      exact hK_.out _ (Ext.refl _)
    refine RnL.cons (fun g6 A_ W_ hs_ => ?_) ?_
    · have q5_:=(hs_.old 5 (by kernel_rfl):A_.tmps[5]?.getD undef = .pointer (some ⟨i2,0,none⟩))
      have q33_:=hs_.val 0 rfl rfl rfl
      refine Rn.val fun K_ hK_ => ?_
      go_simp
      exact hK_.out _ (Ext.refl _)
    refine RnL.cons (fun g6 A_ W_ hs_ => ?_) ?_
    · have q34_:=hs_.val 1 rfl rfl rfl
      have cB2_0:=((HB2_6.out.drew.ext hs_.1)).cell 0 rfl
      refine Rn.val fun K_ hK_ => ?_
      go_simp
      exact hK_.out _ (Ext.refl _)
    refine RnL.cons (fun g6 A_ W_ hs_ => ?_) ?_
    · have q7_:=(hs_.old 7 (by kernel_rfl):A_.tmps[7]?.getD undef = .int .i64 0)
      refine Rn.val fun K_ hK_ => ?_
      go_simp
      exact hK_.out _ (Ext.refl _)
    refine RnL.cons (fun g6 A_ W_ hs_ => ?_) ?_
    · have q5_:=(hs_.old 5 (by kernel_rfl):A_.tmps[5]?.getD undef = .pointer (some ⟨i2,0,none⟩))
      have q36_:=hs_.val 3 rfl rfl rfl
      refine Rn.val fun K_ hK_ => ?_
      go_simp
      exact hK_.out _ (Ext.refl _)
    refine RnL.cons (fun g6 A_ W_ hs_ => ?_) ?_
    · have q37_:=hs_.val 4 rfl rfl rfl
      have cB2_0:=((HB2_6.out.drew.ext hs_.1)).cell 0 rfl
      refine Rn.val fun K_ hK_ => ?_
      go_simp
      exact hK_.out _ (Ext.refl _)
    refine RnL.cons (fun g6 A_ W_ hs_ => ?_) ?_
    · have q38_:=hs_.val 5 rfl rfl rfl
      refine Rn.val fun K_ hK_ => ?_
      go_simp
      try go_bits
      exact hK_.out _ (Ext.refl _)
    refine RnL.cons (fun g6 A_ W_ hs_ => ?_) ?_
    · have q7_:=(hs_.old 7 (by kernel_rfl):A_.tmps[7]?.getD undef = .int .i64 0)
      refine Rn.val fun K_ hK_ => ?_
      go_simp
      exact hK_.out _ (Ext.refl _)
    refine RnL.cons (fun g6 A_ W_ hs_ => ?_) ?_
    · have q6_:=(hs_.old 6 (by kernel_rfl):A_.tmps[6]?.getD undef = .pointer (some ⟨i3,0,none⟩))
      have q40_:=hs_.val 7 rfl rfl rfl
      refine Rn.val fun K_ hK_ => ?_
      go_simp
      exact hK_.out _ (Ext.refl _)
    refine RnL.cons (fun g6 A_ W_ hs_ => ?_) ?_
    · have q41_:=hs_.val 8 rfl rfl rfl
      have cB3_0:=((HB3_6.out.drew.ext hs_.1)).cell 0 rfl
      refine Rn.val fun K_ hK_ => ?_
      go_simp
      exact hK_.out _ (Ext.refl _)
    refine RnL.cons (fun g6 A_ W_ hs_ => ?_) ?_
    · have q7_:=(hs_.old 7 (by kernel_rfl):A_.tmps[7]?.getD undef = .int .i64 0)
      refine Rn.val fun K_ hK_ => ?_
      go_simp
      exact hK_.out _ (Ext.refl _)
    refine RnL.cons (fun g6 A_ W_ hs_ => ?_) ?_
    · have q6_:=(hs_.old 6 (by kernel_rfl):A_.tmps[6]?.getD undef = .pointer (some ⟨i3,0,none⟩))
      have q43_:=hs_.val 10 rfl rfl rfl
      refine Rn.val fun K_ hK_ => ?_
      go_simp
      exact hK_.out _ (Ext.refl _)
    refine RnL.cons (fun g6 A_ W_ hs_ => ?_) ?_
    · have q44_:=hs_.val 11 rfl rfl rfl
      have cB3_0:=((HB3_6.out.drew.ext hs_.1)).cell 0 rfl
      refine Rn.val fun K_ hK_ => ?_
      go_simp
      exact hK_.out _ (Ext.refl _)
    refine RnL.cons (fun g6 A_ W_ hs_ => ?_) ?_
    · have q45_:=hs_.val 12 rfl rfl rfl
      refine Rn.val fun K_ hK_ => ?_
      go_simp
      try go_bits
      exact hK_.out _ (Ext.refl _)
    refine RnL.cons (fun g6 A_ W_ hs_ => ?_) ?_
    · have q35_:=hs_.val 2 rfl rfl rfl
      have q39_:=hs_.val 6 rfl rfl rfl
      have q42_:=hs_.val 9 rfl rfl rfl
      have q46_:=hs_.val 13 rfl rfl rfl
      refine Rn.val fun K_ hK_ => ?_
      go_simp
      exact hK_.out _ (Ext.refl _)
    refine RnL.cons (fun g6 A_ W_ hs_ => ?_) ?_
    · have q47_:=hs_.val 14 rfl rfl rfl
      refine Rn.val fun K_ hK_ => ?_
      go_simp
      exact hK_.out _ (Ext.refl _)
    exact RnL.nil
  simp only [fs,Kd.value,puts,Act.put,List.setIfInBounds_toArray,List.set_cons_zero,List.set_cons_succ]
  have HX7:Hid (Ext w w7):=Lib.hid (HX6.out.drew.trans hx_)
  have HB2_7:=Lib.hid (HB2_6.out.drew.ext hx_)
  have HB3_7:=Lib.hid (HB3_6.out.drew.ext hx_)
  clear hx_ hm_ hne_
  go_wp2_with fail
  rw [rounds_succ]
  go_wp2_with fail
  refine wp_name (fun W => Ext w W∧Blk W (i2) #[.int .i64 x.w,.int .i64 x.x,.int .i64 x.y,.int .i64 x.z] 22∧Blk W (i3) #[.int .i64 y.w,.int .i64 y.x,.int .i64 y.y,.int .i64 y.z] 22) ⟨HX7.out,HB2_7.out,HB3_7.out⟩ ?_
  rintro w8 ⟨e8,bB2_8,bB3_8⟩
  have HX8:=Lib.hid e8;have HB2_8:=Lib.hid bB2_8;have HB3_8:=Lib.hid bB3_8
  clear e8 bB2_8 bB3_8
  refine region_lin [.val (.int .i64 1),.val (.pointer (some ⟨i2,1,none⟩)),.val (.int .i64 x.x),.val (.int .i64 1),.val (.pointer (some ⟨i2,1,none⟩)),.val (.int .i64 x.x),.val (.int .i64 (-x.x)),.val (.int .i64 1),.val (.pointer (some ⟨i3,1,none⟩)),.val (.int .i64 y.x),.val (.int .i64 1),.val (.pointer (some ⟨i3,1,none⟩)),.val (.int .i64 y.x),.val (.int .i64 (-y.x)),.val (.int .i64 (max x.x (max (-x.x) (max y.x (-y.x))))),.val (.bool false)] (by kernel_rfl) (by kernel_rfl) (by kernel_rfl) ?_ (fun g8 w9 hx_ hm_ hne_ => ?_)
  · skip
    refine RnL.cons (fun g8 A_ W_ hs_ => ?_) ?_
    · have q7_:=(hs_.old 7 (by kernel_rfl):A_.tmps[7]?.getD undef = .int .i64 1)
      refine Rn.val fun K_ hK_ => ?_
      go_simp
      exact hK_.out _ (Ext.refl _)
    refine RnL.cons (fun g8 A_ W_ hs_ => ?_) ?_
    · have q5_:=(hs_.old 5 (by kernel_rfl):A_.tmps[5]?.getD undef = .pointer (some ⟨i2,0,none⟩))
      have q33_:=hs_.val 0 rfl rfl rfl
      refine Rn.val fun K_ hK_ => ?_
      go_simp
      exact hK_.out _ (Ext.refl _)
    refine RnL.cons (fun g8 A_ W_ hs_ => ?_) ?_
    · have q34_:=hs_.val 1 rfl rfl rfl
      have cB2_1:=((HB2_8.out.drew.ext hs_.1)).cell 1 rfl
      refine Rn.val fun K_ hK_ => ?_
      go_simp
      exact hK_.out _ (Ext.refl _)
    refine RnL.cons (fun g8 A_ W_ hs_ => ?_) ?_
    · have q7_:=(hs_.old 7 (by kernel_rfl):A_.tmps[7]?.getD undef = .int .i64 1)
      refine Rn.val fun K_ hK_ => ?_
      go_simp
      exact hK_.out _ (Ext.refl _)
    refine RnL.cons (fun g8 A_ W_ hs_ => ?_) ?_
    · have q5_:=(hs_.old 5 (by kernel_rfl):A_.tmps[5]?.getD undef = .pointer (some ⟨i2,0,none⟩))
      have q36_:=hs_.val 3 rfl rfl rfl
      refine Rn.val fun K_ hK_ => ?_
      go_simp
      exact hK_.out _ (Ext.refl _)
    refine RnL.cons (fun g8 A_ W_ hs_ => ?_) ?_
    · have q37_:=hs_.val 4 rfl rfl rfl
      have cB2_1:=((HB2_8.out.drew.ext hs_.1)).cell 1 rfl
      refine Rn.val fun K_ hK_ => ?_
      go_simp
      exact hK_.out _ (Ext.refl _)
    refine RnL.cons (fun g8 A_ W_ hs_ => ?_) ?_
    · have q38_:=hs_.val 5 rfl rfl rfl
      refine Rn.val fun K_ hK_ => ?_
      go_simp
      try go_bits
      exact hK_.out _ (Ext.refl _)
    refine RnL.cons (fun g8 A_ W_ hs_ => ?_) ?_
    · have q7_:=(hs_.old 7 (by kernel_rfl):A_.tmps[7]?.getD undef = .int .i64 1)
      refine Rn.val fun K_ hK_ => ?_
      go_simp
      exact hK_.out _ (Ext.refl _)
    refine RnL.cons (fun g8 A_ W_ hs_ => ?_) ?_
    · have q6_:=(hs_.old 6 (by kernel_rfl):A_.tmps[6]?.getD undef = .pointer (some ⟨i3,0,none⟩))
      have q40_:=hs_.val 7 rfl rfl rfl
      refine Rn.val fun K_ hK_ => ?_
      go_simp
      exact hK_.out _ (Ext.refl _)
    refine RnL.cons (fun g8 A_ W_ hs_ => ?_) ?_
    · have q41_:=hs_.val 8 rfl rfl rfl
      have cB3_1:=((HB3_8.out.drew.ext hs_.1)).cell 1 rfl
      refine Rn.val fun K_ hK_ => ?_
      go_simp
      exact hK_.out _ (Ext.refl _)
    refine RnL.cons (fun g8 A_ W_ hs_ => ?_) ?_
    · have q7_:=(hs_.old 7 (by kernel_rfl):A_.tmps[7]?.getD undef = .int .i64 1)
      refine Rn.val fun K_ hK_ => ?_
      go_simp
      exact hK_.out _ (Ext.refl _)
    refine RnL.cons (fun g8 A_ W_ hs_ => ?_) ?_
    · have q6_:=(hs_.old 6 (by kernel_rfl):A_.tmps[6]?.getD undef = .pointer (some ⟨i3,0,none⟩))
      have q43_:=hs_.val 10 rfl rfl rfl
      refine Rn.val fun K_ hK_ => ?_
      go_simp
      exact hK_.out _ (Ext.refl _)
    refine RnL.cons (fun g8 A_ W_ hs_ => ?_) ?_
    · have q44_:=hs_.val 11 rfl rfl rfl
      have cB3_1:=((HB3_8.out.drew.ext hs_.1)).cell 1 rfl
      refine Rn.val fun K_ hK_ => ?_
      go_simp
      exact hK_.out _ (Ext.refl _)
    refine RnL.cons (fun g8 A_ W_ hs_ => ?_) ?_
    · have q45_:=hs_.val 12 rfl rfl rfl
      refine Rn.val fun K_ hK_ => ?_
      go_simp
      try go_bits
      exact hK_.out _ (Ext.refl _)
    refine RnL.cons (fun g8 A_ W_ hs_ => ?_) ?_
    · have q35_:=hs_.val 2 rfl rfl rfl
      have q39_:=hs_.val 6 rfl rfl rfl
      have q42_:=hs_.val 9 rfl rfl rfl
      have q46_:=hs_.val 13 rfl rfl rfl
      refine Rn.val fun K_ hK_ => ?_
      go_simp
      exact hK_.out _ (Ext.refl _)
    refine RnL.cons (fun g8 A_ W_ hs_ => ?_) ?_
    · have q47_:=hs_.val 14 rfl rfl rfl
      refine Rn.val fun K_ hK_ => ?_
      go_simp
      exact hK_.out _ (Ext.refl _)
    exact RnL.nil
  simp only [fs,Kd.value,puts,Act.put,List.setIfInBounds_toArray,List.set_cons_zero,List.set_cons_succ]
  have HX9:Hid (Ext w w9):=Lib.hid (HX8.out.drew.trans hx_)
  have HB2_9:=Lib.hid (HB2_8.out.drew.ext hx_)
  have HB3_9:=Lib.hid (HB3_8.out.drew.ext hx_)
  clear hx_ hm_ hne_
  go_wp2_with fail
  rw [rounds_succ]
  go_wp2_with fail
  refine wp_name (fun W => Ext w W∧Blk W (i2) #[.int .i64 x.w,.int .i64 x.x,.int .i64 x.y,.int .i64 x.z] 22∧Blk W (i3) #[.int .i64 y.w,.int .i64 y.x,.int .i64 y.y,.int .i64 y.z] 22) ⟨HX9.out,HB2_9.out,HB3_9.out⟩ ?_
  rintro w10 ⟨e10,bB2_10,bB3_10⟩
  have HX10:=Lib.hid e10;have HB2_10:=Lib.hid bB2_10;have HB3_10:=Lib.hid bB3_10
  clear e10 bB2_10 bB3_10
  refine region_lin [.val (.int .i64 2),.val (.pointer (some ⟨i2,2,none⟩)),.val (.int .i64 x.y),.val (.int .i64 2),.val (.pointer (some ⟨i2,2,none⟩)),.val (.int .i64 x.y),.val (.int .i64 (-x.y)),.val (.int .i64 2),.val (.pointer (some ⟨i3,2,none⟩)),.val (.int .i64 y.y),.val (.int .i64 2),.val (.pointer (some ⟨i3,2,none⟩)),.val (.int .i64 y.y),.val (.int .i64 (-y.y)),.val (.int .i64 (max x.y (max (-x.y) (max y.y (-y.y))))),.val (.bool true)] (by kernel_rfl) (by kernel_rfl) (by kernel_rfl) ?_ (fun g10 w11 hx_ hm_ hne_ => ?_)
  · skip
    refine RnL.cons (fun g10 A_ W_ hs_ => ?_) ?_
    · have q7_:=(hs_.old 7 (by kernel_rfl):A_.tmps[7]?.getD undef = .int .i64 2)
      refine Rn.val fun K_ hK_ => ?_
      go_simp
      exact hK_.out _ (Ext.refl _)
    refine RnL.cons (fun g10 A_ W_ hs_ => ?_) ?_
    · have q5_:=(hs_.old 5 (by kernel_rfl):A_.tmps[5]?.getD undef = .pointer (some ⟨i2,0,none⟩))
      have q33_:=hs_.val 0 rfl rfl rfl
      refine Rn.val fun K_ hK_ => ?_
      go_simp
      exact hK_.out _ (Ext.refl _)
    refine RnL.cons (fun g10 A_ W_ hs_ => ?_) ?_
    · have q34_:=hs_.val 1 rfl rfl rfl
      have cB2_2:=((HB2_10.out.drew.ext hs_.1)).cell 2 rfl
      refine Rn.val fun K_ hK_ => ?_
      go_simp
      exact hK_.out _ (Ext.refl _)
    refine RnL.cons (fun g10 A_ W_ hs_ => ?_) ?_
    · have q7_:=(hs_.old 7 (by kernel_rfl):A_.tmps[7]?.getD undef = .int .i64 2)
      refine Rn.val fun K_ hK_ => ?_
      go_simp
      exact hK_.out _ (Ext.refl _)
    refine RnL.cons (fun g10 A_ W_ hs_ => ?_) ?_
    · have q5_:=(hs_.old 5 (by kernel_rfl):A_.tmps[5]?.getD undef = .pointer (some ⟨i2,0,none⟩))
      have q36_:=hs_.val 3 rfl rfl rfl
      refine Rn.val fun K_ hK_ => ?_
      go_simp
      exact hK_.out _ (Ext.refl _)
    refine RnL.cons (fun g10 A_ W_ hs_ => ?_) ?_
    · have q37_:=hs_.val 4 rfl rfl rfl
      have cB2_2:=((HB2_10.out.drew.ext hs_.1)).cell 2 rfl
      refine Rn.val fun K_ hK_ => ?_
      go_simp
      exact hK_.out _ (Ext.refl _)
    refine RnL.cons (fun g10 A_ W_ hs_ => ?_) ?_
    · have q38_:=hs_.val 5 rfl rfl rfl
      refine Rn.val fun K_ hK_ => ?_
      go_simp
      try go_bits
      exact hK_.out _ (Ext.refl _)
    refine RnL.cons (fun g10 A_ W_ hs_ => ?_) ?_
    · have q7_:=(hs_.old 7 (by kernel_rfl):A_.tmps[7]?.getD undef = .int .i64 2)
      refine Rn.val fun K_ hK_ => ?_
      go_simp
      exact hK_.out _ (Ext.refl _)
    refine RnL.cons (fun g10 A_ W_ hs_ => ?_) ?_
    · have q6_:=(hs_.old 6 (by kernel_rfl):A_.tmps[6]?.getD undef = .pointer (some ⟨i3,0,none⟩))
      have q40_:=hs_.val 7 rfl rfl rfl
      refine Rn.val fun K_ hK_ => ?_
      go_simp
      exact hK_.out _ (Ext.refl _)
    refine RnL.cons (fun g10 A_ W_ hs_ => ?_) ?_
    · have q41_:=hs_.val 8 rfl rfl rfl
      have cB3_2:=((HB3_10.out.drew.ext hs_.1)).cell 2 rfl
      refine Rn.val fun K_ hK_ => ?_
      go_simp
      exact hK_.out _ (Ext.refl _)
    refine RnL.cons (fun g10 A_ W_ hs_ => ?_) ?_
    · have q7_:=(hs_.old 7 (by kernel_rfl):A_.tmps[7]?.getD undef = .int .i64 2)
      refine Rn.val fun K_ hK_ => ?_
      go_simp
      exact hK_.out _ (Ext.refl _)
    refine RnL.cons (fun g10 A_ W_ hs_ => ?_) ?_
    · have q6_:=(hs_.old 6 (by kernel_rfl):A_.tmps[6]?.getD undef = .pointer (some ⟨i3,0,none⟩))
      have q43_:=hs_.val 10 rfl rfl rfl
      refine Rn.val fun K_ hK_ => ?_
      go_simp
      exact hK_.out _ (Ext.refl _)
    refine RnL.cons (fun g10 A_ W_ hs_ => ?_) ?_
    · have q44_:=hs_.val 11 rfl rfl rfl
      have cB3_2:=((HB3_10.out.drew.ext hs_.1)).cell 2 rfl
      refine Rn.val fun K_ hK_ => ?_
      go_simp
      exact hK_.out _ (Ext.refl _)
    refine RnL.cons (fun g10 A_ W_ hs_ => ?_) ?_
    · have q45_:=hs_.val 12 rfl rfl rfl
      refine Rn.val fun K_ hK_ => ?_
      go_simp
      try go_bits
      exact hK_.out _ (Ext.refl _)
    refine RnL.cons (fun g10 A_ W_ hs_ => ?_) ?_
    · have q35_:=hs_.val 2 rfl rfl rfl
      have q39_:=hs_.val 6 rfl rfl rfl
      have q42_:=hs_.val 9 rfl rfl rfl
      have q46_:=hs_.val 13 rfl rfl rfl
      refine Rn.val fun K_ hK_ => ?_
      go_simp
      exact hK_.out _ (Ext.refl _)
    refine RnL.cons (fun g10 A_ W_ hs_ => ?_) ?_
    · have q47_:=hs_.val 14 rfl rfl rfl
      refine Rn.val fun K_ hK_ => ?_
      go_simp
      exact hK_.out _ (Ext.refl _)
    exact RnL.nil
  simp only [fs,Kd.value,puts,Act.put,List.setIfInBounds_toArray,List.set_cons_zero,List.set_cons_succ]
  have HX11:Hid (Ext w w11):=Lib.hid (HX10.out.drew.trans hx_)
  clear hx_ hm_ hne_
  go_wp2
  go_ret
  exact ⟨rfl,HX11.out⟩

set_option maxRecDepth 100000 in
set_option maxHeartbeats 8000000 in
theorem comp17_k3 (a b x y:Q4) (w:World) (g:Gd w) (hea:QErr a 0) (heb:QErr b 0) (hia:Q4In a) (hib:Q4In b) (hza:¬ a.zero) (hzb:¬ b.zero) (hx:prim4 a = x) (hy:prim4 b = y) (h0:¬ 10000 < max x.w (max (-x.w) (max y.w (-y.w)))) (h1:¬ 10000 < max x.x (max (-x.x) (max y.x (-y.x)))) (h2:¬ 10000 < max x.y (max (-x.y) (max y.y (-y.y)))) (h3:10000 < max x.z (max (-x.z) (max y.z (-y.z)))):Calls Tryz.prog 6 #[.agg #[.int .i64 a.w,.int .i64 a.x,.int .i64 a.y,.int .i64 a.z],.agg #[.int .i64 b.w,.int .i64 b.x,.int .i64 b.y,.int .i64 b.z]] w (Ret w (.bool true)):=by
  have HEA:=Lib.hid hea
  have HEB:=Lib.hid heb
  have HIA:=Lib.hid hia
  have HIB:=Lib.hid hib
  have HZA:=Lib.hid hza
  have HZB:=Lib.hid hzb
  have HX9:=Lib.hid hx
  have HY9:=Lib.hid hy
  have HG:=Lib.hid g
  clear hea heb hia hib hza hzb hx hy g
  have mqw:=run_max4 x.w (-x.w) y.w (-y.w)
  have mqx:=run_max4 x.x (-x.x) y.x (-y.x)
  have mqy:=run_max4 x.y (-x.y) y.y (-y.y)
  have mqz:=run_max4 x.z (-x.z) y.z (-y.z)
  have HIX:Hid (Q4In x):=Lib.hid (HX9.out ▸ prim4_in HIA.out);have HIY:Hid (Q4In y):=Lib.hid (HY9.out ▸ prim4_in HIB.out)
  have ix:=HIX.out;have iy:=HIY.out;have bxw:=ix.w;have bxx:=ix.x;have bxy:=ix.y;have bxz:=ix.z;have byw:=iy.w;have byx:=iy.x;have byy:=iy.y;have byz:=iy.z;clear ix iy
  have m0_:decide ((10000:Int) < max x.w (max (-x.w) (max y.w (-y.w)))) = false:=decide_eq_false (by omega)
  have m1_:decide ((10000:Int) < max x.x (max (-x.x) (max y.x (-y.x)))) = false:=decide_eq_false (by omega)
  have m2_:decide ((10000:Int) < max x.y (max (-x.y) (max y.y (-y.y)))) = false:=decide_eq_false (by omega)
  have m3_:decide ((10000:Int) < max x.z (max (-x.z) (max y.z (-y.z)))) = true:=decide_eq_true (by omega)
  clear h0 h1 h2 h3
  go_enter Tryz.func6,Tryz.ntmps6
  go_wp2_with fail
  refine (known17_c _ (HG.out.ext (((Ext.refl w).alloc _).alloc _))).mono ?_;rintro e w1 ⟨rfl,e1⟩
  have HX1:Hid (Ext w w1):=Lib.hid ((((Ext.refl w).alloc _).alloc _).trans e1)
  have HB0_1:Hid (Blk w1 (w.heap.size) #[.int .i64 a.w,.int .i64 a.x,.int .i64 a.y,.int .i64 a.z] 22):=Lib.hid (Blk.ext ((Blk.new' (w:=_) (cs:=#[.int .i64 a.w,.int .i64 a.x,.int .i64 a.y,.int .i64 a.z]) (t:=22) (by first | rfl | (simp only [World.size_alloc];done) | (simp only [World.size_alloc];omega) | simp)).alloc _) e1)
  have HB1_1:Hid (Blk w1 (w.heap.size + 1) #[.int .i64 b.w,.int .i64 b.x,.int .i64 b.y,.int .i64 b.z] 22):=Lib.hid (Blk.ext (Blk.new' (w:=_) (cs:=#[.int .i64 b.w,.int .i64 b.x,.int .i64 b.y,.int .i64 b.z]) (t:=22) (by first | rfl | (simp only [World.size_alloc];done) | (simp only [World.size_alloc];omega) | simp)) e1)
  have HGEB0:Hid (w.heap.size ≤ w.heap.size):=Lib.hid (by first | omega | (simp only [];omega) | (simp;omega))
  have HGEB1:Hid (w.heap.size ≤ w.heap.size + 1):=Lib.hid (by first | omega | (simp only [];omega) | (simp;omega))
  clear e1
  have c0_0:=HB0_1.out.cell 0 rfl
  have c0_1:=HB0_1.out.cell 1 rfl
  have c0_2:=HB0_1.out.cell 2 rfl
  have c0_3:=HB0_1.out.cell 3 rfl
  go_wp2_with fail
  refine (lchk_l _ (HG.out.ext HX1.out) HEA.out).mono ?_;rintro e w2 ⟨rfl,e2⟩
  have HX2:Hid (Ext w w2):=Lib.hid (HX1.out.trans e2)
  have HB0_2:=Lib.hid (Blk.ext HB0_1.out e2)
  have HB1_2:=Lib.hid (Blk.ext HB1_1.out e2)
  clear e2 c0_0 c0_1 c0_2 c0_3
  have c1_0:=HB1_2.out.cell 0 rfl
  have c1_1:=HB1_2.out.cell 1 rfl
  have c1_2:=HB1_2.out.cell 2 rfl
  have c1_3:=HB1_2.out.cell 3 rfl
  go_wp2_with fail
  refine (lchk_l _ (HG.out.ext HX2.out) HEB.out).mono ?_;rintro e w3 ⟨rfl,e3⟩
  have HX3:Hid (Ext w w3):=Lib.hid (HX2.out.trans e3)
  have HB0_3:=Lib.hid (Blk.ext HB0_2.out e3)
  have HB1_3:=Lib.hid (Blk.ext HB1_2.out e3)
  clear e3 c1_0 c1_1 c1_2 c1_3
  go_wp2_with fail
  refine wp_name (fun W => Ext w W∧Blk W (w.heap.size) #[.int .i64 a.w,.int .i64 a.x,.int .i64 a.y,.int .i64 a.z] 22∧Blk W (w.heap.size + 1) #[.int .i64 b.w,.int .i64 b.x,.int .i64 b.y,.int .i64 b.z] 22) ⟨HX3.out,HB0_3.out,HB1_3.out⟩ ?_
  rintro w4 ⟨e4,bB0_4,bB1_4⟩
  have HX4:=Lib.hid e4;have HB0_4:=Lib.hid bB0_4;have HB1_4:=Lib.hid bB1_4
  clear e4 bB0_4 bB1_4
  refine region_lin [.val (.agg #[.int .i64 a.w,.int .i64 a.x,.int .i64 a.y,.int .i64 a.z]),.val (.agg #[.int .i64 x.w,.int .i64 x.x,.int .i64 x.y,.int .i64 x.z]),.val (.agg #[.int .i64 b.w,.int .i64 b.x,.int .i64 b.y,.int .i64 b.z]),.val (.agg #[.int .i64 y.w,.int .i64 y.x,.int .i64 y.y,.int .i64 y.z]),.mem (fun b_ => .pointer (some ⟨b_,0,none⟩)) #[.int .i64 0,.int .i64 0,.int .i64 0,.int .i64 0] 22 (Option.some 6),.mem (fun b_ => .pointer (some ⟨b_,0,none⟩)) #[.int .i64 0,.int .i64 0,.int .i64 0,.int .i64 0] 22 (Option.some 7),.put 4 #[.int .i64 x.w,.int .i64 x.x,.int .i64 x.y,.int .i64 x.z],.put 5 #[.int .i64 y.w,.int .i64 y.x,.int .i64 y.y,.int .i64 y.z]] (by kernel_rfl) (by kernel_rfl) (by kernel_rfl) ?_ (fun g4 w5 hx_ hm_ hne_ => ?_)
  · skip
    refine RnL.cons (fun g4 A_ W_ hs_ => ?_) ?_
    · have q2_:=(hs_.old 2 (by kernel_rfl):A_.tmps[2]?.getD undef = .pointer (some ⟨w.heap.size,0,none⟩))
      have cB0_0:=((HB0_4.out.drew.ext hs_.1)).cell 0 rfl
      have cB0_1:=((HB0_4.out.drew.ext hs_.1)).cell 1 rfl
      have cB0_2:=((HB0_4.out.drew.ext hs_.1)).cell 2 rfl
      have cB0_3:=((HB0_4.out.drew.ext hs_.1)).cell 3 rfl
      refine Rn.val fun K_ hK_ => ?_
      go_simp
      exact hK_.out _ (Ext.refl _)
    refine RnL.cons (fun g4 A_ W_ hs_ => ?_) ?_
    · have q25_:=hs_.val 0 rfl rfl rfl
      refine Rn.val fun K_ hK_ => ?_
      go_simp
      refine (lprim_as a x HX9.out _ (HG.out.ext (HX4.out.drew.trans hs_.1)) HIA.out.bd HZA.out).mono ?_;rintro e W9_ ⟨rfl,e9_⟩;exact hK_.out _ e9_
    refine RnL.cons (fun g4 A_ W_ hs_ => ?_) ?_
    · have q3_:=(hs_.old 3 (by kernel_rfl):A_.tmps[3]?.getD undef = .pointer (some ⟨w.heap.size + 1,0,none⟩))
      have cB1_0:=((HB1_4.out.drew.ext hs_.1)).cell 0 rfl
      have cB1_1:=((HB1_4.out.drew.ext hs_.1)).cell 1 rfl
      have cB1_2:=((HB1_4.out.drew.ext hs_.1)).cell 2 rfl
      have cB1_3:=((HB1_4.out.drew.ext hs_.1)).cell 3 rfl
      refine Rn.val fun K_ hK_ => ?_
      go_simp
      exact hK_.out _ (Ext.refl _)
    refine RnL.cons (fun g4 A_ W_ hs_ => ?_) ?_
    · have q27_:=hs_.val 2 rfl rfl rfl
      refine Rn.val fun K_ hK_ => ?_
      go_simp
      refine (lprim_as b y HY9.out _ (HG.out.ext (HX4.out.drew.trans hs_.1)) HIB.out.bd HZB.out).mono ?_;rintro e W9_ ⟨rfl,e9_⟩;exact hK_.out _ e9_
    refine RnL.cons (fun g4 A_ W_ hs_ => ?_) ?_
    · refine Rn.mem fun K_ hK_ => ?_
      go_simp
      exact hK_.out
    refine RnL.cons (fun g4 A_ W_ hs_ => ?_) ?_
    · refine Rn.mem fun K_ hK_ => ?_
      go_simp
      exact hK_.out
    refine RnL.cons (fun g4 A_ W_ hs_ => ?_) ?_
    · have q5_:=(hs_.mem 4 rfl rfl rfl).1
      have q26_:=hs_.val 1 rfl rfl rfl
      refine Rn.put (z:=#[.int .i64 0,.int .i64 0,.int .i64 0,.int .i64 0]) (t:=22) rfl fun hB K_ hK_ => ?_
      have c_0:=hB.cell 0 rfl;have f_0:=hB.free 0
      have c_1:=hB.cell 1 rfl;have f_1:=hB.free 1
      have c_2:=hB.cell 2 rfl;have f_2:=hB.free 2
      have c_3:=hB.cell 3 rfl;have f_3:=hB.free 3
      have HB:=Lib.hid hB;clear hB
      go_simp
      exact hK_.out _ (((((Only.refl _ _).set 0 _).set 1 _).set 2 _).set 3 _) ((((HB.out.set 0 _).set 1 _).set 2 _).set 3 _)
    refine RnL.cons (fun g4 A_ W_ hs_ => ?_) ?_
    · have q6_:=(hs_.mem 5 rfl rfl rfl).1
      have q28_:=hs_.val 3 rfl rfl rfl
      refine Rn.put (z:=#[.int .i64 0,.int .i64 0,.int .i64 0,.int .i64 0]) (t:=22) rfl fun hB K_ hK_ => ?_
      have c_0:=hB.cell 0 rfl;have f_0:=hB.free 0
      have c_1:=hB.cell 1 rfl;have f_1:=hB.free 1
      have c_2:=hB.cell 2 rfl;have f_2:=hB.free 2
      have c_3:=hB.cell 3 rfl;have f_3:=hB.free 3
      have HB:=Lib.hid hB;clear hB
      go_simp
      exact hK_.out _ (((((Only.refl _ _).set 0 _).set 1 _).set 2 _).set 3 _) ((((HB.out.set 0 _).set 1 _).set 2 _).set 3 _)
    exact RnL.nil
  simp only [fs,Kd.value,puts,Act.put,List.setIfInBounds_toArray,List.set_cons_zero,List.set_cons_succ,Nat.reduceAdd]
  have HX5:Hid (Ext w w5):=Lib.hid (HX4.out.drew.trans hx_)
  have HB2_5:Hid (Blk w5 (g4 4) #[.int .i64 x.w,.int .i64 x.x,.int .i64 x.y,.int .i64 x.z] 22):=Lib.hid (hm_ 4 _ _ _ _ rfl).2;have HGEB2:Hid (w.heap.size ≤ g4 4):=Lib.hid (Nat.le_trans HX4.out.size (hm_ 4 _ _ _ _ rfl).1)
  have HB3_5:Hid (Blk w5 (g4 5) #[.int .i64 y.w,.int .i64 y.x,.int .i64 y.y,.int .i64 y.z] 22):=Lib.hid (hm_ 5 _ _ _ _ rfl).2;have HGEB3:Hid (w.heap.size ≤ g4 5):=Lib.hid (Nat.le_trans HX4.out.size (hm_ 5 _ _ _ _ rfl).1)
  have HNEB2B3:Hid (g4 4 ≠ g4 5):=Lib.hid (hne_ 4 5 (by decide) ⟨_,_,_,_,rfl⟩ ⟨_,_,_,_,rfl⟩)
  clear hx_ hm_ hne_
  generalize g4 4 = i2 at *
  generalize g4 5 = i3 at *
  clear g4
  go_wp2_with fail
  refine wp_loop_rounds 4 ?_
  rw [rounds_succ]
  go_wp2_with fail
  refine wp_name (fun W => Ext w W∧Blk W (i2) #[.int .i64 x.w,.int .i64 x.x,.int .i64 x.y,.int .i64 x.z] 22∧Blk W (i3) #[.int .i64 y.w,.int .i64 y.x,.int .i64 y.y,.int .i64 y.z] 22) ⟨HX5.out,HB2_5.out,HB3_5.out⟩ ?_
  rintro w6 ⟨e6,bB2_6,bB3_6⟩
  have HX6:=Lib.hid e6;have HB2_6:=Lib.hid bB2_6;have HB3_6:=Lib.hid bB3_6
  clear e6 bB2_6 bB3_6
  refine region_lin [.val (.int .i64 0),.val (.pointer (some ⟨i2,0,none⟩)),.val (.int .i64 x.w),.val (.int .i64 0),.val (.pointer (some ⟨i2,0,none⟩)),.val (.int .i64 x.w),.val (.int .i64 (-x.w)),.val (.int .i64 0),.val (.pointer (some ⟨i3,0,none⟩)),.val (.int .i64 y.w),.val (.int .i64 0),.val (.pointer (some ⟨i3,0,none⟩)),.val (.int .i64 y.w),.val (.int .i64 (-y.w)),.val (.int .i64 (max x.w (max (-x.w) (max y.w (-y.w))))),.val (.bool false)] (by kernel_rfl) (by kernel_rfl) (by kernel_rfl) ?_ (fun g6 w7 hx_ hm_ hne_ => ?_)
  · skip
    refine RnL.cons (fun g6 A_ W_ hs_ => ?_) ?_
    · have q7_:=(hs_.old 7 (by kernel_rfl):A_.tmps[7]?.getD undef = .int .i64 0)
      refine Rn.val fun K_ hK_ => ?_
      go_simp
      exact hK_.out _ (Ext.refl _)
    refine RnL.cons (fun g6 A_ W_ hs_ => ?_) ?_
    · have q5_:=(hs_.old 5 (by kernel_rfl):A_.tmps[5]?.getD undef = .pointer (some ⟨i2,0,none⟩))
      have q33_:=hs_.val 0 rfl rfl rfl
      refine Rn.val fun K_ hK_ => ?_
      go_simp
      exact hK_.out _ (Ext.refl _)
    refine RnL.cons (fun g6 A_ W_ hs_ => ?_) ?_
    · have q34_:=hs_.val 1 rfl rfl rfl
      have cB2_0:=((HB2_6.out.drew.ext hs_.1)).cell 0 rfl
      refine Rn.val fun K_ hK_ => ?_
      go_simp
      exact hK_.out _ (Ext.refl _)
    refine RnL.cons (fun g6 A_ W_ hs_ => ?_) ?_
    · have q7_:=(hs_.old 7 (by kernel_rfl):A_.tmps[7]?.getD undef = .int .i64 0)
      refine Rn.val fun K_ hK_ => ?_
      go_simp
      exact hK_.out _ (Ext.refl _)
    refine RnL.cons (fun g6 A_ W_ hs_ => ?_) ?_
    · have q5_:=(hs_.old 5 (by kernel_rfl):A_.tmps[5]?.getD undef = .pointer (some ⟨i2,0,none⟩))
      have q36_:=hs_.val 3 rfl rfl rfl
      refine Rn.val fun K_ hK_ => ?_
      go_simp
      exact hK_.out _ (Ext.refl _)
    refine RnL.cons (fun g6 A_ W_ hs_ => ?_) ?_
    · have q37_:=hs_.val 4 rfl rfl rfl
      have cB2_0:=((HB2_6.out.drew.ext hs_.1)).cell 0 rfl
      refine Rn.val fun K_ hK_ => ?_
      go_simp
      exact hK_.out _ (Ext.refl _)
    refine RnL.cons (fun g6 A_ W_ hs_ => ?_) ?_
    · have q38_:=hs_.val 5 rfl rfl rfl
      refine Rn.val fun K_ hK_ => ?_
      go_simp
      try go_bits
      exact hK_.out _ (Ext.refl _)
    refine RnL.cons (fun g6 A_ W_ hs_ => ?_) ?_
    · have q7_:=(hs_.old 7 (by kernel_rfl):A_.tmps[7]?.getD undef = .int .i64 0)
      refine Rn.val fun K_ hK_ => ?_
      go_simp
      exact hK_.out _ (Ext.refl _)
    refine RnL.cons (fun g6 A_ W_ hs_ => ?_) ?_
    · have q6_:=(hs_.old 6 (by kernel_rfl):A_.tmps[6]?.getD undef = .pointer (some ⟨i3,0,none⟩))
      have q40_:=hs_.val 7 rfl rfl rfl
      refine Rn.val fun K_ hK_ => ?_
      go_simp
      exact hK_.out _ (Ext.refl _)
    refine RnL.cons (fun g6 A_ W_ hs_ => ?_) ?_
    · have q41_:=hs_.val 8 rfl rfl rfl
      have cB3_0:=((HB3_6.out.drew.ext hs_.1)).cell 0 rfl
      refine Rn.val fun K_ hK_ => ?_
      go_simp
      exact hK_.out _ (Ext.refl _)
    refine RnL.cons (fun g6 A_ W_ hs_ => ?_) ?_
    · have q7_:=(hs_.old 7 (by kernel_rfl):A_.tmps[7]?.getD undef = .int .i64 0)
      refine Rn.val fun K_ hK_ => ?_
      go_simp
      exact hK_.out _ (Ext.refl _)
    refine RnL.cons (fun g6 A_ W_ hs_ => ?_) ?_
    · have q6_:=(hs_.old 6 (by kernel_rfl):A_.tmps[6]?.getD undef = .pointer (some ⟨i3,0,none⟩))
      have q43_:=hs_.val 10 rfl rfl rfl
      refine Rn.val fun K_ hK_ => ?_
      go_simp
      exact hK_.out _ (Ext.refl _)
    refine RnL.cons (fun g6 A_ W_ hs_ => ?_) ?_
    · have q44_:=hs_.val 11 rfl rfl rfl
      have cB3_0:=((HB3_6.out.drew.ext hs_.1)).cell 0 rfl
      refine Rn.val fun K_ hK_ => ?_
      go_simp
      exact hK_.out _ (Ext.refl _)
    refine RnL.cons (fun g6 A_ W_ hs_ => ?_) ?_
    · have q45_:=hs_.val 12 rfl rfl rfl
      refine Rn.val fun K_ hK_ => ?_
      go_simp
      try go_bits
      exact hK_.out _ (Ext.refl _)
    refine RnL.cons (fun g6 A_ W_ hs_ => ?_) ?_
    · have q35_:=hs_.val 2 rfl rfl rfl
      have q39_:=hs_.val 6 rfl rfl rfl
      have q42_:=hs_.val 9 rfl rfl rfl
      have q46_:=hs_.val 13 rfl rfl rfl
      refine Rn.val fun K_ hK_ => ?_
      go_simp
      exact hK_.out _ (Ext.refl _)
    refine RnL.cons (fun g6 A_ W_ hs_ => ?_) ?_
    · have q47_:=hs_.val 14 rfl rfl rfl
      refine Rn.val fun K_ hK_ => ?_
      go_simp
      exact hK_.out _ (Ext.refl _)
    exact RnL.nil
  simp only [fs,Kd.value,puts,Act.put,List.setIfInBounds_toArray,List.set_cons_zero,List.set_cons_succ]
  have HX7:Hid (Ext w w7):=Lib.hid (HX6.out.drew.trans hx_)
  have HB2_7:=Lib.hid (HB2_6.out.drew.ext hx_)
  have HB3_7:=Lib.hid (HB3_6.out.drew.ext hx_)
  clear hx_ hm_ hne_
  go_wp2_with fail
  rw [rounds_succ]
  go_wp2_with fail
  refine wp_name (fun W => Ext w W∧Blk W (i2) #[.int .i64 x.w,.int .i64 x.x,.int .i64 x.y,.int .i64 x.z] 22∧Blk W (i3) #[.int .i64 y.w,.int .i64 y.x,.int .i64 y.y,.int .i64 y.z] 22) ⟨HX7.out,HB2_7.out,HB3_7.out⟩ ?_
  rintro w8 ⟨e8,bB2_8,bB3_8⟩
  have HX8:=Lib.hid e8;have HB2_8:=Lib.hid bB2_8;have HB3_8:=Lib.hid bB3_8
  clear e8 bB2_8 bB3_8
  refine region_lin [.val (.int .i64 1),.val (.pointer (some ⟨i2,1,none⟩)),.val (.int .i64 x.x),.val (.int .i64 1),.val (.pointer (some ⟨i2,1,none⟩)),.val (.int .i64 x.x),.val (.int .i64 (-x.x)),.val (.int .i64 1),.val (.pointer (some ⟨i3,1,none⟩)),.val (.int .i64 y.x),.val (.int .i64 1),.val (.pointer (some ⟨i3,1,none⟩)),.val (.int .i64 y.x),.val (.int .i64 (-y.x)),.val (.int .i64 (max x.x (max (-x.x) (max y.x (-y.x))))),.val (.bool false)] (by kernel_rfl) (by kernel_rfl) (by kernel_rfl) ?_ (fun g8 w9 hx_ hm_ hne_ => ?_)
  · skip
    refine RnL.cons (fun g8 A_ W_ hs_ => ?_) ?_
    · have q7_:=(hs_.old 7 (by kernel_rfl):A_.tmps[7]?.getD undef = .int .i64 1)
      refine Rn.val fun K_ hK_ => ?_
      go_simp
      exact hK_.out _ (Ext.refl _)
    refine RnL.cons (fun g8 A_ W_ hs_ => ?_) ?_
    · have q5_:=(hs_.old 5 (by kernel_rfl):A_.tmps[5]?.getD undef = .pointer (some ⟨i2,0,none⟩))
      have q33_:=hs_.val 0 rfl rfl rfl
      refine Rn.val fun K_ hK_ => ?_
      go_simp
      exact hK_.out _ (Ext.refl _)
    refine RnL.cons (fun g8 A_ W_ hs_ => ?_) ?_
    · have q34_:=hs_.val 1 rfl rfl rfl
      have cB2_1:=((HB2_8.out.drew.ext hs_.1)).cell 1 rfl
      refine Rn.val fun K_ hK_ => ?_
      go_simp
      exact hK_.out _ (Ext.refl _)
    refine RnL.cons (fun g8 A_ W_ hs_ => ?_) ?_
    · have q7_:=(hs_.old 7 (by kernel_rfl):A_.tmps[7]?.getD undef = .int .i64 1)
      refine Rn.val fun K_ hK_ => ?_
      go_simp
      exact hK_.out _ (Ext.refl _)
    refine RnL.cons (fun g8 A_ W_ hs_ => ?_) ?_
    · have q5_:=(hs_.old 5 (by kernel_rfl):A_.tmps[5]?.getD undef = .pointer (some ⟨i2,0,none⟩))
      have q36_:=hs_.val 3 rfl rfl rfl
      refine Rn.val fun K_ hK_ => ?_
      go_simp
      exact hK_.out _ (Ext.refl _)
    refine RnL.cons (fun g8 A_ W_ hs_ => ?_) ?_
    · have q37_:=hs_.val 4 rfl rfl rfl
      have cB2_1:=((HB2_8.out.drew.ext hs_.1)).cell 1 rfl
      refine Rn.val fun K_ hK_ => ?_
      go_simp
      exact hK_.out _ (Ext.refl _)
    refine RnL.cons (fun g8 A_ W_ hs_ => ?_) ?_
    · have q38_:=hs_.val 5 rfl rfl rfl
      refine Rn.val fun K_ hK_ => ?_
      go_simp
      try go_bits
      exact hK_.out _ (Ext.refl _)
    refine RnL.cons (fun g8 A_ W_ hs_ => ?_) ?_
    · have q7_:=(hs_.old 7 (by kernel_rfl):A_.tmps[7]?.getD undef = .int .i64 1)
      refine Rn.val fun K_ hK_ => ?_
      go_simp
      exact hK_.out _ (Ext.refl _)
    refine RnL.cons (fun g8 A_ W_ hs_ => ?_) ?_
    · have q6_:=(hs_.old 6 (by kernel_rfl):A_.tmps[6]?.getD undef = .pointer (some ⟨i3,0,none⟩))
      have q40_:=hs_.val 7 rfl rfl rfl
      refine Rn.val fun K_ hK_ => ?_
      go_simp
      exact hK_.out _ (Ext.refl _)
    refine RnL.cons (fun g8 A_ W_ hs_ => ?_) ?_
    · have q41_:=hs_.val 8 rfl rfl rfl
      have cB3_1:=((HB3_8.out.drew.ext hs_.1)).cell 1 rfl
      refine Rn.val fun K_ hK_ => ?_
      go_simp
      exact hK_.out _ (Ext.refl _)
    refine RnL.cons (fun g8 A_ W_ hs_ => ?_) ?_
    · have q7_:=(hs_.old 7 (by kernel_rfl):A_.tmps[7]?.getD undef = .int .i64 1)
      refine Rn.val fun K_ hK_ => ?_
      go_simp
      exact hK_.out _ (Ext.refl _)
    refine RnL.cons (fun g8 A_ W_ hs_ => ?_) ?_
    · have q6_:=(hs_.old 6 (by kernel_rfl):A_.tmps[6]?.getD undef = .pointer (some ⟨i3,0,none⟩))
      have q43_:=hs_.val 10 rfl rfl rfl
      refine Rn.val fun K_ hK_ => ?_
      go_simp
      exact hK_.out _ (Ext.refl _)
    refine RnL.cons (fun g8 A_ W_ hs_ => ?_) ?_
    · have q44_:=hs_.val 11 rfl rfl rfl
      have cB3_1:=((HB3_8.out.drew.ext hs_.1)).cell 1 rfl
      refine Rn.val fun K_ hK_ => ?_
      go_simp
      exact hK_.out _ (Ext.refl _)
    refine RnL.cons (fun g8 A_ W_ hs_ => ?_) ?_
    · have q45_:=hs_.val 12 rfl rfl rfl
      refine Rn.val fun K_ hK_ => ?_
      go_simp
      try go_bits
      exact hK_.out _ (Ext.refl _)
    refine RnL.cons (fun g8 A_ W_ hs_ => ?_) ?_
    · have q35_:=hs_.val 2 rfl rfl rfl
      have q39_:=hs_.val 6 rfl rfl rfl
      have q42_:=hs_.val 9 rfl rfl rfl
      have q46_:=hs_.val 13 rfl rfl rfl
      refine Rn.val fun K_ hK_ => ?_
      go_simp
      exact hK_.out _ (Ext.refl _)
    refine RnL.cons (fun g8 A_ W_ hs_ => ?_) ?_
    · have q47_:=hs_.val 14 rfl rfl rfl
      refine Rn.val fun K_ hK_ => ?_
      go_simp
      exact hK_.out _ (Ext.refl _)
    exact RnL.nil
  simp only [fs,Kd.value,puts,Act.put,List.setIfInBounds_toArray,List.set_cons_zero,List.set_cons_succ]
  have HX9:Hid (Ext w w9):=Lib.hid (HX8.out.drew.trans hx_)
  have HB2_9:=Lib.hid (HB2_8.out.drew.ext hx_)
  have HB3_9:=Lib.hid (HB3_8.out.drew.ext hx_)
  clear hx_ hm_ hne_
  go_wp2_with fail
  rw [rounds_succ]
  go_wp2_with fail
  refine wp_name (fun W => Ext w W∧Blk W (i2) #[.int .i64 x.w,.int .i64 x.x,.int .i64 x.y,.int .i64 x.z] 22∧Blk W (i3) #[.int .i64 y.w,.int .i64 y.x,.int .i64 y.y,.int .i64 y.z] 22) ⟨HX9.out,HB2_9.out,HB3_9.out⟩ ?_
  rintro w10 ⟨e10,bB2_10,bB3_10⟩
  have HX10:=Lib.hid e10;have HB2_10:=Lib.hid bB2_10;have HB3_10:=Lib.hid bB3_10
  clear e10 bB2_10 bB3_10
  refine region_lin [.val (.int .i64 2),.val (.pointer (some ⟨i2,2,none⟩)),.val (.int .i64 x.y),.val (.int .i64 2),.val (.pointer (some ⟨i2,2,none⟩)),.val (.int .i64 x.y),.val (.int .i64 (-x.y)),.val (.int .i64 2),.val (.pointer (some ⟨i3,2,none⟩)),.val (.int .i64 y.y),.val (.int .i64 2),.val (.pointer (some ⟨i3,2,none⟩)),.val (.int .i64 y.y),.val (.int .i64 (-y.y)),.val (.int .i64 (max x.y (max (-x.y) (max y.y (-y.y))))),.val (.bool false)] (by kernel_rfl) (by kernel_rfl) (by kernel_rfl) ?_ (fun g10 w11 hx_ hm_ hne_ => ?_)
  · skip
    refine RnL.cons (fun g10 A_ W_ hs_ => ?_) ?_
    · have q7_:=(hs_.old 7 (by kernel_rfl):A_.tmps[7]?.getD undef = .int .i64 2)
      refine Rn.val fun K_ hK_ => ?_
      go_simp
      exact hK_.out _ (Ext.refl _)
    refine RnL.cons (fun g10 A_ W_ hs_ => ?_) ?_
    · have q5_:=(hs_.old 5 (by kernel_rfl):A_.tmps[5]?.getD undef = .pointer (some ⟨i2,0,none⟩))
      have q33_:=hs_.val 0 rfl rfl rfl
      refine Rn.val fun K_ hK_ => ?_
      go_simp
      exact hK_.out _ (Ext.refl _)
    refine RnL.cons (fun g10 A_ W_ hs_ => ?_) ?_
    · have q34_:=hs_.val 1 rfl rfl rfl
      have cB2_2:=((HB2_10.out.drew.ext hs_.1)).cell 2 rfl
      refine Rn.val fun K_ hK_ => ?_
      go_simp
      exact hK_.out _ (Ext.refl _)
    refine RnL.cons (fun g10 A_ W_ hs_ => ?_) ?_
    · have q7_:=(hs_.old 7 (by kernel_rfl):A_.tmps[7]?.getD undef = .int .i64 2)
      refine Rn.val fun K_ hK_ => ?_
      go_simp
      exact hK_.out _ (Ext.refl _)
    refine RnL.cons (fun g10 A_ W_ hs_ => ?_) ?_
    · have q5_:=(hs_.old 5 (by kernel_rfl):A_.tmps[5]?.getD undef = .pointer (some ⟨i2,0,none⟩))
      have q36_:=hs_.val 3 rfl rfl rfl
      refine Rn.val fun K_ hK_ => ?_
      go_simp
      exact hK_.out _ (Ext.refl _)
    refine RnL.cons (fun g10 A_ W_ hs_ => ?_) ?_
    · have q37_:=hs_.val 4 rfl rfl rfl
      have cB2_2:=((HB2_10.out.drew.ext hs_.1)).cell 2 rfl
      refine Rn.val fun K_ hK_ => ?_
      go_simp
      exact hK_.out _ (Ext.refl _)
    refine RnL.cons (fun g10 A_ W_ hs_ => ?_) ?_
    · have q38_:=hs_.val 5 rfl rfl rfl
      refine Rn.val fun K_ hK_ => ?_
      go_simp
      try go_bits
      exact hK_.out _ (Ext.refl _)
    refine RnL.cons (fun g10 A_ W_ hs_ => ?_) ?_
    · have q7_:=(hs_.old 7 (by kernel_rfl):A_.tmps[7]?.getD undef = .int .i64 2)
      refine Rn.val fun K_ hK_ => ?_
      go_simp
      exact hK_.out _ (Ext.refl _)
    refine RnL.cons (fun g10 A_ W_ hs_ => ?_) ?_
    · have q6_:=(hs_.old 6 (by kernel_rfl):A_.tmps[6]?.getD undef = .pointer (some ⟨i3,0,none⟩))
      have q40_:=hs_.val 7 rfl rfl rfl
      refine Rn.val fun K_ hK_ => ?_
      go_simp
      exact hK_.out _ (Ext.refl _)
    refine RnL.cons (fun g10 A_ W_ hs_ => ?_) ?_
    · have q41_:=hs_.val 8 rfl rfl rfl
      have cB3_2:=((HB3_10.out.drew.ext hs_.1)).cell 2 rfl
      refine Rn.val fun K_ hK_ => ?_
      go_simp
      exact hK_.out _ (Ext.refl _)
    refine RnL.cons (fun g10 A_ W_ hs_ => ?_) ?_
    · have q7_:=(hs_.old 7 (by kernel_rfl):A_.tmps[7]?.getD undef = .int .i64 2)
      refine Rn.val fun K_ hK_ => ?_
      go_simp
      exact hK_.out _ (Ext.refl _)
    refine RnL.cons (fun g10 A_ W_ hs_ => ?_) ?_
    · have q6_:=(hs_.old 6 (by kernel_rfl):A_.tmps[6]?.getD undef = .pointer (some ⟨i3,0,none⟩))
      have q43_:=hs_.val 10 rfl rfl rfl
      refine Rn.val fun K_ hK_ => ?_
      go_simp
      exact hK_.out _ (Ext.refl _)
    refine RnL.cons (fun g10 A_ W_ hs_ => ?_) ?_
    · have q44_:=hs_.val 11 rfl rfl rfl
      have cB3_2:=((HB3_10.out.drew.ext hs_.1)).cell 2 rfl
      refine Rn.val fun K_ hK_ => ?_
      go_simp
      exact hK_.out _ (Ext.refl _)
    refine RnL.cons (fun g10 A_ W_ hs_ => ?_) ?_
    · have q45_:=hs_.val 12 rfl rfl rfl
      refine Rn.val fun K_ hK_ => ?_
      go_simp
      try go_bits
      exact hK_.out _ (Ext.refl _)
    refine RnL.cons (fun g10 A_ W_ hs_ => ?_) ?_
    · have q35_:=hs_.val 2 rfl rfl rfl
      have q39_:=hs_.val 6 rfl rfl rfl
      have q42_:=hs_.val 9 rfl rfl rfl
      have q46_:=hs_.val 13 rfl rfl rfl
      refine Rn.val fun K_ hK_ => ?_
      go_simp
      exact hK_.out _ (Ext.refl _)
    refine RnL.cons (fun g10 A_ W_ hs_ => ?_) ?_
    · have q47_:=hs_.val 14 rfl rfl rfl
      refine Rn.val fun K_ hK_ => ?_
      go_simp
      exact hK_.out _ (Ext.refl _)
    exact RnL.nil
  simp only [fs,Kd.value,puts,Act.put,List.setIfInBounds_toArray,List.set_cons_zero,List.set_cons_succ]
  have HX11:Hid (Ext w w11):=Lib.hid (HX10.out.drew.trans hx_)
  have HB2_11:=Lib.hid (HB2_10.out.drew.ext hx_)
  have HB3_11:=Lib.hid (HB3_10.out.drew.ext hx_)
  clear hx_ hm_ hne_
  go_wp2_with fail
  rw [rounds_succ]
  go_wp2_with fail
  refine wp_name (fun W => Ext w W∧Blk W (i2) #[.int .i64 x.w,.int .i64 x.x,.int .i64 x.y,.int .i64 x.z] 22∧Blk W (i3) #[.int .i64 y.w,.int .i64 y.x,.int .i64 y.y,.int .i64 y.z] 22) ⟨HX11.out,HB2_11.out,HB3_11.out⟩ ?_
  rintro w12 ⟨e12,bB2_12,bB3_12⟩
  have HX12:=Lib.hid e12;have HB2_12:=Lib.hid bB2_12;have HB3_12:=Lib.hid bB3_12
  clear e12 bB2_12 bB3_12
  refine region_lin [.val (.int .i64 3),.val (.pointer (some ⟨i2,3,none⟩)),.val (.int .i64 x.z),.val (.int .i64 3),.val (.pointer (some ⟨i2,3,none⟩)),.val (.int .i64 x.z),.val (.int .i64 (-x.z)),.val (.int .i64 3),.val (.pointer (some ⟨i3,3,none⟩)),.val (.int .i64 y.z),.val (.int .i64 3),.val (.pointer (some ⟨i3,3,none⟩)),.val (.int .i64 y.z),.val (.int .i64 (-y.z)),.val (.int .i64 (max x.z (max (-x.z) (max y.z (-y.z))))),.val (.bool true)] (by kernel_rfl) (by kernel_rfl) (by kernel_rfl) ?_ (fun g12 w13 hx_ hm_ hne_ => ?_)
  · skip
    refine RnL.cons (fun g12 A_ W_ hs_ => ?_) ?_
    · have q7_:=(hs_.old 7 (by kernel_rfl):A_.tmps[7]?.getD undef = .int .i64 3)
      refine Rn.val fun K_ hK_ => ?_
      go_simp
      exact hK_.out _ (Ext.refl _)
    refine RnL.cons (fun g12 A_ W_ hs_ => ?_) ?_
    · have q5_:=(hs_.old 5 (by kernel_rfl):A_.tmps[5]?.getD undef = .pointer (some ⟨i2,0,none⟩))
      have q33_:=hs_.val 0 rfl rfl rfl
      refine Rn.val fun K_ hK_ => ?_
      go_simp
      exact hK_.out _ (Ext.refl _)
    refine RnL.cons (fun g12 A_ W_ hs_ => ?_) ?_
    · have q34_:=hs_.val 1 rfl rfl rfl
      have cB2_3:=((HB2_12.out.drew.ext hs_.1)).cell 3 rfl
      refine Rn.val fun K_ hK_ => ?_
      go_simp
      exact hK_.out _ (Ext.refl _)
    refine RnL.cons (fun g12 A_ W_ hs_ => ?_) ?_
    · have q7_:=(hs_.old 7 (by kernel_rfl):A_.tmps[7]?.getD undef = .int .i64 3)
      refine Rn.val fun K_ hK_ => ?_
      go_simp
      exact hK_.out _ (Ext.refl _)
    refine RnL.cons (fun g12 A_ W_ hs_ => ?_) ?_
    · have q5_:=(hs_.old 5 (by kernel_rfl):A_.tmps[5]?.getD undef = .pointer (some ⟨i2,0,none⟩))
      have q36_:=hs_.val 3 rfl rfl rfl
      refine Rn.val fun K_ hK_ => ?_
      go_simp
      exact hK_.out _ (Ext.refl _)
    refine RnL.cons (fun g12 A_ W_ hs_ => ?_) ?_
    · have q37_:=hs_.val 4 rfl rfl rfl
      have cB2_3:=((HB2_12.out.drew.ext hs_.1)).cell 3 rfl
      refine Rn.val fun K_ hK_ => ?_
      go_simp
      exact hK_.out _ (Ext.refl _)
    refine RnL.cons (fun g12 A_ W_ hs_ => ?_) ?_
    · have q38_:=hs_.val 5 rfl rfl rfl
      refine Rn.val fun K_ hK_ => ?_
      go_simp
      try go_bits
      exact hK_.out _ (Ext.refl _)
    refine RnL.cons (fun g12 A_ W_ hs_ => ?_) ?_
    · have q7_:=(hs_.old 7 (by kernel_rfl):A_.tmps[7]?.getD undef = .int .i64 3)
      refine Rn.val fun K_ hK_ => ?_
      go_simp
      exact hK_.out _ (Ext.refl _)
    refine RnL.cons (fun g12 A_ W_ hs_ => ?_) ?_
    · have q6_:=(hs_.old 6 (by kernel_rfl):A_.tmps[6]?.getD undef = .pointer (some ⟨i3,0,none⟩))
      have q40_:=hs_.val 7 rfl rfl rfl
      refine Rn.val fun K_ hK_ => ?_
      go_simp
      exact hK_.out _ (Ext.refl _)
    refine RnL.cons (fun g12 A_ W_ hs_ => ?_) ?_
    · have q41_:=hs_.val 8 rfl rfl rfl
      have cB3_3:=((HB3_12.out.drew.ext hs_.1)).cell 3 rfl
      refine Rn.val fun K_ hK_ => ?_
      go_simp
      exact hK_.out _ (Ext.refl _)
    refine RnL.cons (fun g12 A_ W_ hs_ => ?_) ?_
    · have q7_:=(hs_.old 7 (by kernel_rfl):A_.tmps[7]?.getD undef = .int .i64 3)
      refine Rn.val fun K_ hK_ => ?_
      go_simp
      exact hK_.out _ (Ext.refl _)
    refine RnL.cons (fun g12 A_ W_ hs_ => ?_) ?_
    · have q6_:=(hs_.old 6 (by kernel_rfl):A_.tmps[6]?.getD undef = .pointer (some ⟨i3,0,none⟩))
      have q43_:=hs_.val 10 rfl rfl rfl
      refine Rn.val fun K_ hK_ => ?_
      go_simp
      exact hK_.out _ (Ext.refl _)
    refine RnL.cons (fun g12 A_ W_ hs_ => ?_) ?_
    · have q44_:=hs_.val 11 rfl rfl rfl
      have cB3_3:=((HB3_12.out.drew.ext hs_.1)).cell 3 rfl
      refine Rn.val fun K_ hK_ => ?_
      go_simp
      exact hK_.out _ (Ext.refl _)
    refine RnL.cons (fun g12 A_ W_ hs_ => ?_) ?_
    · have q45_:=hs_.val 12 rfl rfl rfl
      refine Rn.val fun K_ hK_ => ?_
      go_simp
      try go_bits
      exact hK_.out _ (Ext.refl _)
    refine RnL.cons (fun g12 A_ W_ hs_ => ?_) ?_
    · have q35_:=hs_.val 2 rfl rfl rfl
      have q39_:=hs_.val 6 rfl rfl rfl
      have q42_:=hs_.val 9 rfl rfl rfl
      have q46_:=hs_.val 13 rfl rfl rfl
      refine Rn.val fun K_ hK_ => ?_
      go_simp
      exact hK_.out _ (Ext.refl _)
    refine RnL.cons (fun g12 A_ W_ hs_ => ?_) ?_
    · have q47_:=hs_.val 14 rfl rfl rfl
      refine Rn.val fun K_ hK_ => ?_
      go_simp
      exact hK_.out _ (Ext.refl _)
    exact RnL.nil
  simp only [fs,Kd.value,puts,Act.put,List.setIfInBounds_toArray,List.set_cons_zero,List.set_cons_succ]
  have HX13:Hid (Ext w w13):=Lib.hid (HX12.out.drew.trans hx_)
  clear hx_ hm_ hne_
  go_wp2
  go_ret
  exact ⟨rfl,HX13.out⟩

set_option maxRecDepth 100000 in
set_option maxHeartbeats 16000000 in
theorem comp17_ok (a b x y p:Q4) (w:World) (g:Gd w) (hea:QErr a 0) (heb:QErr b 0) (hia:Q4In a) (hib:Q4In b) (hza:¬ a.zero) (hzb:¬ b.zero) (hx:prim4 a = x) (hy:prim4 b = y) (h0:¬ 10000 < max x.w (max (-x.w) (max y.w (-y.w)))) (h1:¬ 10000 < max x.x (max (-x.x) (max y.x (-y.x)))) (h2:¬ 10000 < max x.y (max (-x.y) (max y.y (-y.y)))) (h3:¬ 10000 < max x.z (max (-x.z) (max y.z (-y.z)))) (hp:prim4 (prod4 x y) = p) (he:QErr p 0):Calls Tryz.prog 6 #[.agg #[.int .i64 a.w,.int .i64 a.x,.int .i64 a.y,.int .i64 a.z],.agg #[.int .i64 b.w,.int .i64 b.x,.int .i64 b.y,.int .i64 b.z]] w (Ret w (.bool true)):=by
  have HEA:=Lib.hid hea
  have HEB:=Lib.hid heb
  have HIA:=Lib.hid hia
  have HIB:=Lib.hid hib
  have HZA:=Lib.hid hza
  have HZB:=Lib.hid hzb
  have HX9:=Lib.hid hx
  have HY9:=Lib.hid hy
  have HP9:=Lib.hid hp
  have HE:=Lib.hid he
  have HG:=Lib.hid g
  clear hea heb hia hib hza hzb hx hy hp he g
  have mqw:=run_max4 x.w (-x.w) y.w (-y.w)
  have mqx:=run_max4 x.x (-x.x) y.x (-y.x)
  have mqy:=run_max4 x.y (-x.y) y.y (-y.y)
  have mqz:=run_max4 x.z (-x.z) y.z (-y.z)
  have HIX:Hid (Q4In x):=Lib.hid (HX9.out ▸ prim4_in HIA.out);have HIY:Hid (Q4In y):=Lib.hid (HY9.out ▸ prim4_in HIB.out)
  have ix:=HIX.out;have iy:=HIY.out;have bxw:=ix.w;have bxx:=ix.x;have bxy:=ix.y;have bxz:=ix.z;have byw:=iy.w;have byx:=iy.x;have byy:=iy.y;have byz:=iy.z;clear ix iy
  have m0_:decide ((10000:Int) < max x.w (max (-x.w) (max y.w (-y.w)))) = false:=decide_eq_false (by omega)
  have m1_:decide ((10000:Int) < max x.x (max (-x.x) (max y.x (-y.x)))) = false:=decide_eq_false (by omega)
  have m2_:decide ((10000:Int) < max x.y (max (-x.y) (max y.y (-y.y)))) = false:=decide_eq_false (by omega)
  have m3_:decide ((10000:Int) < max x.z (max (-x.z) (max y.z (-y.z)))) = false:=decide_eq_false (by omega)
  clear h0 h1 h2 h3
  obtain ⟨q,eq_⟩:∃ q,prod4 x y = q:=⟨_,rfl⟩
  have HQ9:=Lib.hid eq_;have HQB:Hid (Q4Bd q):=Lib.hid (eq_ ▸ prod4_bd HIX.out HIY.out);have HQZ:Hid (¬ q.zero):=Lib.hid (by rw [← eq_,← HX9.out,← HY9.out];exact prod4_nz (prim4_nz HZA.out) (prim4_nz HZB.out));clear eq_
  have HEP:Hid (prim4 q = p):=Lib.hid (by rw [← HQ9.out];exact HP9.out)
  have HEC:Hid (prim4 (prod4 a b) = p):=Lib.hid (by rw [prim4_prod HZA.out HZB.out,HX9.out,HY9.out,HQ9.out];exact HEP.out)
  have eqa0:=eq4 p.w p.x p.y p.z p.w p.x p.y p.z
  go_enter Tryz.func6,Tryz.ntmps6
  go_wp2_with fail
  refine (known17_c _ (HG.out.ext (((Ext.refl w).alloc _).alloc _))).mono ?_;rintro e w1 ⟨rfl,e1⟩
  have HX1:Hid (Ext w w1):=Lib.hid ((((Ext.refl w).alloc _).alloc _).trans e1)
  have HB0_1:Hid (Blk w1 (w.heap.size) #[.int .i64 a.w,.int .i64 a.x,.int .i64 a.y,.int .i64 a.z] 22):=Lib.hid (Blk.ext ((Blk.new' (w:=_) (cs:=#[.int .i64 a.w,.int .i64 a.x,.int .i64 a.y,.int .i64 a.z]) (t:=22) (by first | rfl | (simp only [World.size_alloc];done) | (simp only [World.size_alloc];omega) | simp)).alloc _) e1)
  have HB1_1:Hid (Blk w1 (w.heap.size + 1) #[.int .i64 b.w,.int .i64 b.x,.int .i64 b.y,.int .i64 b.z] 22):=Lib.hid (Blk.ext (Blk.new' (w:=_) (cs:=#[.int .i64 b.w,.int .i64 b.x,.int .i64 b.y,.int .i64 b.z]) (t:=22) (by first | rfl | (simp only [World.size_alloc];done) | (simp only [World.size_alloc];omega) | simp)) e1)
  have HGEB0:Hid (w.heap.size ≤ w.heap.size):=Lib.hid (by first | omega | (simp only [];omega) | (simp;omega))
  have HGEB1:Hid (w.heap.size ≤ w.heap.size + 1):=Lib.hid (by first | omega | (simp only [];omega) | (simp;omega))
  clear e1
  have c0_0:=HB0_1.out.cell 0 rfl
  have c0_1:=HB0_1.out.cell 1 rfl
  have c0_2:=HB0_1.out.cell 2 rfl
  have c0_3:=HB0_1.out.cell 3 rfl
  go_wp2_with fail
  refine (lchk_l _ (HG.out.ext HX1.out) HEA.out).mono ?_;rintro e w2 ⟨rfl,e2⟩
  have HX2:Hid (Ext w w2):=Lib.hid (HX1.out.trans e2)
  have HB0_2:=Lib.hid (Blk.ext HB0_1.out e2)
  have HB1_2:=Lib.hid (Blk.ext HB1_1.out e2)
  clear e2 c0_0 c0_1 c0_2 c0_3
  have c1_0:=HB1_2.out.cell 0 rfl
  have c1_1:=HB1_2.out.cell 1 rfl
  have c1_2:=HB1_2.out.cell 2 rfl
  have c1_3:=HB1_2.out.cell 3 rfl
  go_wp2_with fail
  refine (lchk_l _ (HG.out.ext HX2.out) HEB.out).mono ?_;rintro e w3 ⟨rfl,e3⟩
  have HX3:Hid (Ext w w3):=Lib.hid (HX2.out.trans e3)
  have HB0_3:=Lib.hid (Blk.ext HB0_2.out e3)
  have HB1_3:=Lib.hid (Blk.ext HB1_2.out e3)
  clear e3 c1_0 c1_1 c1_2 c1_3
  go_wp2_with fail
  refine wp_name (fun W => Ext w W∧Blk W (w.heap.size) #[.int .i64 a.w,.int .i64 a.x,.int .i64 a.y,.int .i64 a.z] 22∧Blk W (w.heap.size + 1) #[.int .i64 b.w,.int .i64 b.x,.int .i64 b.y,.int .i64 b.z] 22) ⟨HX3.out,HB0_3.out,HB1_3.out⟩ ?_
  rintro w4 ⟨e4,bB0_4,bB1_4⟩
  have HX4:=Lib.hid e4;have HB0_4:=Lib.hid bB0_4;have HB1_4:=Lib.hid bB1_4
  clear e4 bB0_4 bB1_4
  refine region_lin [.val (.agg #[.int .i64 a.w,.int .i64 a.x,.int .i64 a.y,.int .i64 a.z]),.val (.agg #[.int .i64 x.w,.int .i64 x.x,.int .i64 x.y,.int .i64 x.z]),.val (.agg #[.int .i64 b.w,.int .i64 b.x,.int .i64 b.y,.int .i64 b.z]),.val (.agg #[.int .i64 y.w,.int .i64 y.x,.int .i64 y.y,.int .i64 y.z]),.mem (fun b_ => .pointer (some ⟨b_,0,none⟩)) #[.int .i64 0,.int .i64 0,.int .i64 0,.int .i64 0] 22 (Option.some 6),.mem (fun b_ => .pointer (some ⟨b_,0,none⟩)) #[.int .i64 0,.int .i64 0,.int .i64 0,.int .i64 0] 22 (Option.some 7),.put 4 #[.int .i64 x.w,.int .i64 x.x,.int .i64 x.y,.int .i64 x.z],.put 5 #[.int .i64 y.w,.int .i64 y.x,.int .i64 y.y,.int .i64 y.z]] (by kernel_rfl) (by kernel_rfl) (by kernel_rfl) ?_ (fun g4 w5 hx_ hm_ hne_ => ?_)
  · skip
    refine RnL.cons (fun g4 A_ W_ hs_ => ?_) ?_
    · have q2_:=(hs_.old 2 (by kernel_rfl):A_.tmps[2]?.getD undef = .pointer (some ⟨w.heap.size,0,none⟩))
      have cB0_0:=((HB0_4.out.drew.ext hs_.1)).cell 0 rfl
      have cB0_1:=((HB0_4.out.drew.ext hs_.1)).cell 1 rfl
      have cB0_2:=((HB0_4.out.drew.ext hs_.1)).cell 2 rfl
      have cB0_3:=((HB0_4.out.drew.ext hs_.1)).cell 3 rfl
      refine Rn.val fun K_ hK_ => ?_
      go_simp
      exact hK_.out _ (Ext.refl _)
    refine RnL.cons (fun g4 A_ W_ hs_ => ?_) ?_
    · have q25_:=hs_.val 0 rfl rfl rfl
      refine Rn.val fun K_ hK_ => ?_
      go_simp
      refine (lprim_as a x HX9.out _ (HG.out.ext (HX4.out.drew.trans hs_.1)) HIA.out.bd HZA.out).mono ?_;rintro e W9_ ⟨rfl,e9_⟩;exact hK_.out _ e9_
    refine RnL.cons (fun g4 A_ W_ hs_ => ?_) ?_
    · have q3_:=(hs_.old 3 (by kernel_rfl):A_.tmps[3]?.getD undef = .pointer (some ⟨w.heap.size + 1,0,none⟩))
      have cB1_0:=((HB1_4.out.drew.ext hs_.1)).cell 0 rfl
      have cB1_1:=((HB1_4.out.drew.ext hs_.1)).cell 1 rfl
      have cB1_2:=((HB1_4.out.drew.ext hs_.1)).cell 2 rfl
      have cB1_3:=((HB1_4.out.drew.ext hs_.1)).cell 3 rfl
      refine Rn.val fun K_ hK_ => ?_
      go_simp
      exact hK_.out _ (Ext.refl _)
    refine RnL.cons (fun g4 A_ W_ hs_ => ?_) ?_
    · have q27_:=hs_.val 2 rfl rfl rfl
      refine Rn.val fun K_ hK_ => ?_
      go_simp
      refine (lprim_as b y HY9.out _ (HG.out.ext (HX4.out.drew.trans hs_.1)) HIB.out.bd HZB.out).mono ?_;rintro e W9_ ⟨rfl,e9_⟩;exact hK_.out _ e9_
    refine RnL.cons (fun g4 A_ W_ hs_ => ?_) ?_
    · refine Rn.mem fun K_ hK_ => ?_
      go_simp
      exact hK_.out
    refine RnL.cons (fun g4 A_ W_ hs_ => ?_) ?_
    · refine Rn.mem fun K_ hK_ => ?_
      go_simp
      exact hK_.out
    refine RnL.cons (fun g4 A_ W_ hs_ => ?_) ?_
    · have q5_:=(hs_.mem 4 rfl rfl rfl).1
      have q26_:=hs_.val 1 rfl rfl rfl
      refine Rn.put (z:=#[.int .i64 0,.int .i64 0,.int .i64 0,.int .i64 0]) (t:=22) rfl fun hB K_ hK_ => ?_
      have c_0:=hB.cell 0 rfl;have f_0:=hB.free 0
      have c_1:=hB.cell 1 rfl;have f_1:=hB.free 1
      have c_2:=hB.cell 2 rfl;have f_2:=hB.free 2
      have c_3:=hB.cell 3 rfl;have f_3:=hB.free 3
      have HB:=Lib.hid hB;clear hB
      go_simp
      exact hK_.out _ (((((Only.refl _ _).set 0 _).set 1 _).set 2 _).set 3 _) ((((HB.out.set 0 _).set 1 _).set 2 _).set 3 _)
    refine RnL.cons (fun g4 A_ W_ hs_ => ?_) ?_
    · have q6_:=(hs_.mem 5 rfl rfl rfl).1
      have q28_:=hs_.val 3 rfl rfl rfl
      refine Rn.put (z:=#[.int .i64 0,.int .i64 0,.int .i64 0,.int .i64 0]) (t:=22) rfl fun hB K_ hK_ => ?_
      have c_0:=hB.cell 0 rfl;have f_0:=hB.free 0
      have c_1:=hB.cell 1 rfl;have f_1:=hB.free 1
      have c_2:=hB.cell 2 rfl;have f_2:=hB.free 2
      have c_3:=hB.cell 3 rfl;have f_3:=hB.free 3
      have HB:=Lib.hid hB;clear hB
      go_simp
      exact hK_.out _ (((((Only.refl _ _).set 0 _).set 1 _).set 2 _).set 3 _) ((((HB.out.set 0 _).set 1 _).set 2 _).set 3 _)
    exact RnL.nil
  simp only [fs,Kd.value,puts,Act.put,List.setIfInBounds_toArray,List.set_cons_zero,List.set_cons_succ,Nat.reduceAdd]
  have HX5:Hid (Ext w w5):=Lib.hid (HX4.out.drew.trans hx_)
  have HB0_5:=Lib.hid (HB0_4.out.drew.ext hx_)
  have HB1_5:=Lib.hid (HB1_4.out.drew.ext hx_)
  have HB2_5:Hid (Blk w5 (g4 4) #[.int .i64 x.w,.int .i64 x.x,.int .i64 x.y,.int .i64 x.z] 22):=Lib.hid (hm_ 4 _ _ _ _ rfl).2;have HGEB2:Hid (w.heap.size ≤ g4 4):=Lib.hid (Nat.le_trans HX4.out.size (hm_ 4 _ _ _ _ rfl).1)
  have HB3_5:Hid (Blk w5 (g4 5) #[.int .i64 y.w,.int .i64 y.x,.int .i64 y.y,.int .i64 y.z] 22):=Lib.hid (hm_ 5 _ _ _ _ rfl).2;have HGEB3:Hid (w.heap.size ≤ g4 5):=Lib.hid (Nat.le_trans HX4.out.size (hm_ 5 _ _ _ _ rfl).1)
  have HNEB0B2:Hid (w.heap.size ≠ g4 4):=Lib.hid (Nat.ne_of_lt (Nat.lt_of_lt_of_le HB0_4.out.lt (hm_ 4 _ _ _ _ rfl).1))
  have HNEB0B3:Hid (w.heap.size ≠ g4 5):=Lib.hid (Nat.ne_of_lt (Nat.lt_of_lt_of_le HB0_4.out.lt (hm_ 5 _ _ _ _ rfl).1))
  have HNEB1B2:Hid (w.heap.size + 1 ≠ g4 4):=Lib.hid (Nat.ne_of_lt (Nat.lt_of_lt_of_le HB1_4.out.lt (hm_ 4 _ _ _ _ rfl).1))
  have HNEB1B3:Hid (w.heap.size + 1 ≠ g4 5):=Lib.hid (Nat.ne_of_lt (Nat.lt_of_lt_of_le HB1_4.out.lt (hm_ 5 _ _ _ _ rfl).1))
  have HNEB2B3:Hid (g4 4 ≠ g4 5):=Lib.hid (hne_ 4 5 (by decide) ⟨_,_,_,_,rfl⟩ ⟨_,_,_,_,rfl⟩)
  clear hx_ hm_ hne_
  generalize g4 4 = i2 at *
  generalize g4 5 = i3 at *
  clear g4
  go_wp2_with fail
  refine wp_loop_rounds 5 ?_
  rw [rounds_succ]
  go_wp2_with fail
  refine wp_name (fun W => Ext w W∧Blk W (w.heap.size) #[.int .i64 a.w,.int .i64 a.x,.int .i64 a.y,.int .i64 a.z] 22∧Blk W (w.heap.size + 1) #[.int .i64 b.w,.int .i64 b.x,.int .i64 b.y,.int .i64 b.z] 22∧Blk W (i2) #[.int .i64 x.w,.int .i64 x.x,.int .i64 x.y,.int .i64 x.z] 22∧Blk W (i3) #[.int .i64 y.w,.int .i64 y.x,.int .i64 y.y,.int .i64 y.z] 22) ⟨HX5.out,HB0_5.out,HB1_5.out,HB2_5.out,HB3_5.out⟩ ?_
  rintro w6 ⟨e6,bB0_6,bB1_6,bB2_6,bB3_6⟩
  have HX6:=Lib.hid e6;have HB0_6:=Lib.hid bB0_6;have HB1_6:=Lib.hid bB1_6;have HB2_6:=Lib.hid bB2_6;have HB3_6:=Lib.hid bB3_6
  clear e6 bB0_6 bB1_6 bB2_6 bB3_6
  refine region_lin [.val (.int .i64 0),.val (.pointer (some ⟨i2,0,none⟩)),.val (.int .i64 x.w),.val (.int .i64 0),.val (.pointer (some ⟨i2,0,none⟩)),.val (.int .i64 x.w),.val (.int .i64 (-x.w)),.val (.int .i64 0),.val (.pointer (some ⟨i3,0,none⟩)),.val (.int .i64 y.w),.val (.int .i64 0),.val (.pointer (some ⟨i3,0,none⟩)),.val (.int .i64 y.w),.val (.int .i64 (-y.w)),.val (.int .i64 (max x.w (max (-x.w) (max y.w (-y.w))))),.val (.bool false)] (by kernel_rfl) (by kernel_rfl) (by kernel_rfl) ?_ (fun g6 w7 hx_ hm_ hne_ => ?_)
  · skip
    refine RnL.cons (fun g6 A_ W_ hs_ => ?_) ?_
    · have q7_:=(hs_.old 7 (by kernel_rfl):A_.tmps[7]?.getD undef = .int .i64 0)
      refine Rn.val fun K_ hK_ => ?_
      go_simp
      exact hK_.out _ (Ext.refl _)
    refine RnL.cons (fun g6 A_ W_ hs_ => ?_) ?_
    · have q5_:=(hs_.old 5 (by kernel_rfl):A_.tmps[5]?.getD undef = .pointer (some ⟨i2,0,none⟩))
      have q33_:=hs_.val 0 rfl rfl rfl
      refine Rn.val fun K_ hK_ => ?_
      go_simp
      exact hK_.out _ (Ext.refl _)
    refine RnL.cons (fun g6 A_ W_ hs_ => ?_) ?_
    · have q34_:=hs_.val 1 rfl rfl rfl
      have cB2_0:=((HB2_6.out.drew.ext hs_.1)).cell 0 rfl
      refine Rn.val fun K_ hK_ => ?_
      go_simp
      exact hK_.out _ (Ext.refl _)
    refine RnL.cons (fun g6 A_ W_ hs_ => ?_) ?_
    · have q7_:=(hs_.old 7 (by kernel_rfl):A_.tmps[7]?.getD undef = .int .i64 0)
      refine Rn.val fun K_ hK_ => ?_
      go_simp
      exact hK_.out _ (Ext.refl _)
    refine RnL.cons (fun g6 A_ W_ hs_ => ?_) ?_
    · have q5_:=(hs_.old 5 (by kernel_rfl):A_.tmps[5]?.getD undef = .pointer (some ⟨i2,0,none⟩))
      have q36_:=hs_.val 3 rfl rfl rfl
      refine Rn.val fun K_ hK_ => ?_
      go_simp
      exact hK_.out _ (Ext.refl _)
    refine RnL.cons (fun g6 A_ W_ hs_ => ?_) ?_
    · have q37_:=hs_.val 4 rfl rfl rfl
      have cB2_0:=((HB2_6.out.drew.ext hs_.1)).cell 0 rfl
      refine Rn.val fun K_ hK_ => ?_
      go_simp
      exact hK_.out _ (Ext.refl _)
    refine RnL.cons (fun g6 A_ W_ hs_ => ?_) ?_
    · have q38_:=hs_.val 5 rfl rfl rfl
      refine Rn.val fun K_ hK_ => ?_
      go_simp
      try go_bits
      exact hK_.out _ (Ext.refl _)
    refine RnL.cons (fun g6 A_ W_ hs_ => ?_) ?_
    · have q7_:=(hs_.old 7 (by kernel_rfl):A_.tmps[7]?.getD undef = .int .i64 0)
      refine Rn.val fun K_ hK_ => ?_
      go_simp
      exact hK_.out _ (Ext.refl _)
    refine RnL.cons (fun g6 A_ W_ hs_ => ?_) ?_
    · have q6_:=(hs_.old 6 (by kernel_rfl):A_.tmps[6]?.getD undef = .pointer (some ⟨i3,0,none⟩))
      have q40_:=hs_.val 7 rfl rfl rfl
      refine Rn.val fun K_ hK_ => ?_
      go_simp
      exact hK_.out _ (Ext.refl _)
    refine RnL.cons (fun g6 A_ W_ hs_ => ?_) ?_
    · have q41_:=hs_.val 8 rfl rfl rfl
      have cB3_0:=((HB3_6.out.drew.ext hs_.1)).cell 0 rfl
      refine Rn.val fun K_ hK_ => ?_
      go_simp
      exact hK_.out _ (Ext.refl _)
    refine RnL.cons (fun g6 A_ W_ hs_ => ?_) ?_
    · have q7_:=(hs_.old 7 (by kernel_rfl):A_.tmps[7]?.getD undef = .int .i64 0)
      refine Rn.val fun K_ hK_ => ?_
      go_simp
      exact hK_.out _ (Ext.refl _)
    refine RnL.cons (fun g6 A_ W_ hs_ => ?_) ?_
    · have q6_:=(hs_.old 6 (by kernel_rfl):A_.tmps[6]?.getD undef = .pointer (some ⟨i3,0,none⟩))
      have q43_:=hs_.val 10 rfl rfl rfl
      refine Rn.val fun K_ hK_ => ?_
      go_simp
      exact hK_.out _ (Ext.refl _)
    refine RnL.cons (fun g6 A_ W_ hs_ => ?_) ?_
    · have q44_:=hs_.val 11 rfl rfl rfl
      have cB3_0:=((HB3_6.out.drew.ext hs_.1)).cell 0 rfl
      refine Rn.val fun K_ hK_ => ?_
      go_simp
      exact hK_.out _ (Ext.refl _)
    refine RnL.cons (fun g6 A_ W_ hs_ => ?_) ?_
    · have q45_:=hs_.val 12 rfl rfl rfl
      refine Rn.val fun K_ hK_ => ?_
      go_simp
      try go_bits
      exact hK_.out _ (Ext.refl _)
    refine RnL.cons (fun g6 A_ W_ hs_ => ?_) ?_
    · have q35_:=hs_.val 2 rfl rfl rfl
      have q39_:=hs_.val 6 rfl rfl rfl
      have q42_:=hs_.val 9 rfl rfl rfl
      have q46_:=hs_.val 13 rfl rfl rfl
      refine Rn.val fun K_ hK_ => ?_
      go_simp
      exact hK_.out _ (Ext.refl _)
    refine RnL.cons (fun g6 A_ W_ hs_ => ?_) ?_
    · have q47_:=hs_.val 14 rfl rfl rfl
      refine Rn.val fun K_ hK_ => ?_
      go_simp
      exact hK_.out _ (Ext.refl _)
    exact RnL.nil
  simp only [fs,Kd.value,puts,Act.put,List.setIfInBounds_toArray,List.set_cons_zero,List.set_cons_succ]
  have HX7:Hid (Ext w w7):=Lib.hid (HX6.out.drew.trans hx_)
  have HB0_7:=Lib.hid (HB0_6.out.drew.ext hx_)
  have HB1_7:=Lib.hid (HB1_6.out.drew.ext hx_)
  have HB2_7:=Lib.hid (HB2_6.out.drew.ext hx_)
  have HB3_7:=Lib.hid (HB3_6.out.drew.ext hx_)
  clear hx_ hm_ hne_
  go_wp2_with fail
  rw [rounds_succ]
  go_wp2_with fail
  refine wp_name (fun W => Ext w W∧Blk W (w.heap.size) #[.int .i64 a.w,.int .i64 a.x,.int .i64 a.y,.int .i64 a.z] 22∧Blk W (w.heap.size + 1) #[.int .i64 b.w,.int .i64 b.x,.int .i64 b.y,.int .i64 b.z] 22∧Blk W (i2) #[.int .i64 x.w,.int .i64 x.x,.int .i64 x.y,.int .i64 x.z] 22∧Blk W (i3) #[.int .i64 y.w,.int .i64 y.x,.int .i64 y.y,.int .i64 y.z] 22) ⟨HX7.out,HB0_7.out,HB1_7.out,HB2_7.out,HB3_7.out⟩ ?_
  rintro w8 ⟨e8,bB0_8,bB1_8,bB2_8,bB3_8⟩
  have HX8:=Lib.hid e8;have HB0_8:=Lib.hid bB0_8;have HB1_8:=Lib.hid bB1_8;have HB2_8:=Lib.hid bB2_8;have HB3_8:=Lib.hid bB3_8
  clear e8 bB0_8 bB1_8 bB2_8 bB3_8
  refine region_lin [.val (.int .i64 1),.val (.pointer (some ⟨i2,1,none⟩)),.val (.int .i64 x.x),.val (.int .i64 1),.val (.pointer (some ⟨i2,1,none⟩)),.val (.int .i64 x.x),.val (.int .i64 (-x.x)),.val (.int .i64 1),.val (.pointer (some ⟨i3,1,none⟩)),.val (.int .i64 y.x),.val (.int .i64 1),.val (.pointer (some ⟨i3,1,none⟩)),.val (.int .i64 y.x),.val (.int .i64 (-y.x)),.val (.int .i64 (max x.x (max (-x.x) (max y.x (-y.x))))),.val (.bool false)] (by kernel_rfl) (by kernel_rfl) (by kernel_rfl) ?_ (fun g8 w9 hx_ hm_ hne_ => ?_)
  · skip
    refine RnL.cons (fun g8 A_ W_ hs_ => ?_) ?_
    · have q7_:=(hs_.old 7 (by kernel_rfl):A_.tmps[7]?.getD undef = .int .i64 1)
      refine Rn.val fun K_ hK_ => ?_
      go_simp
      exact hK_.out _ (Ext.refl _)
    refine RnL.cons (fun g8 A_ W_ hs_ => ?_) ?_
    · have q5_:=(hs_.old 5 (by kernel_rfl):A_.tmps[5]?.getD undef = .pointer (some ⟨i2,0,none⟩))
      have q33_:=hs_.val 0 rfl rfl rfl
      refine Rn.val fun K_ hK_ => ?_
      go_simp
      exact hK_.out _ (Ext.refl _)
    refine RnL.cons (fun g8 A_ W_ hs_ => ?_) ?_
    · have q34_:=hs_.val 1 rfl rfl rfl
      have cB2_1:=((HB2_8.out.drew.ext hs_.1)).cell 1 rfl
      refine Rn.val fun K_ hK_ => ?_
      go_simp
      exact hK_.out _ (Ext.refl _)
    refine RnL.cons (fun g8 A_ W_ hs_ => ?_) ?_
    · have q7_:=(hs_.old 7 (by kernel_rfl):A_.tmps[7]?.getD undef = .int .i64 1)
      refine Rn.val fun K_ hK_ => ?_
      go_simp
      exact hK_.out _ (Ext.refl _)
    refine RnL.cons (fun g8 A_ W_ hs_ => ?_) ?_
    · have q5_:=(hs_.old 5 (by kernel_rfl):A_.tmps[5]?.getD undef = .pointer (some ⟨i2,0,none⟩))
      have q36_:=hs_.val 3 rfl rfl rfl
      refine Rn.val fun K_ hK_ => ?_
      go_simp
      exact hK_.out _ (Ext.refl _)
    refine RnL.cons (fun g8 A_ W_ hs_ => ?_) ?_
    · have q37_:=hs_.val 4 rfl rfl rfl
      have cB2_1:=((HB2_8.out.drew.ext hs_.1)).cell 1 rfl
      refine Rn.val fun K_ hK_ => ?_
      go_simp
      exact hK_.out _ (Ext.refl _)
    refine RnL.cons (fun g8 A_ W_ hs_ => ?_) ?_
    · have q38_:=hs_.val 5 rfl rfl rfl
      refine Rn.val fun K_ hK_ => ?_
      go_simp
      try go_bits
      exact hK_.out _ (Ext.refl _)
    refine RnL.cons (fun g8 A_ W_ hs_ => ?_) ?_
    · have q7_:=(hs_.old 7 (by kernel_rfl):A_.tmps[7]?.getD undef = .int .i64 1)
      refine Rn.val fun K_ hK_ => ?_
      go_simp
      exact hK_.out _ (Ext.refl _)
    refine RnL.cons (fun g8 A_ W_ hs_ => ?_) ?_
    · have q6_:=(hs_.old 6 (by kernel_rfl):A_.tmps[6]?.getD undef = .pointer (some ⟨i3,0,none⟩))
      have q40_:=hs_.val 7 rfl rfl rfl
      refine Rn.val fun K_ hK_ => ?_
      go_simp
      exact hK_.out _ (Ext.refl _)
    refine RnL.cons (fun g8 A_ W_ hs_ => ?_) ?_
    · have q41_:=hs_.val 8 rfl rfl rfl
      have cB3_1:=((HB3_8.out.drew.ext hs_.1)).cell 1 rfl
      refine Rn.val fun K_ hK_ => ?_
      go_simp
      exact hK_.out _ (Ext.refl _)
    refine RnL.cons (fun g8 A_ W_ hs_ => ?_) ?_
    · have q7_:=(hs_.old 7 (by kernel_rfl):A_.tmps[7]?.getD undef = .int .i64 1)
      refine Rn.val fun K_ hK_ => ?_
      go_simp
      exact hK_.out _ (Ext.refl _)
    refine RnL.cons (fun g8 A_ W_ hs_ => ?_) ?_
    · have q6_:=(hs_.old 6 (by kernel_rfl):A_.tmps[6]?.getD undef = .pointer (some ⟨i3,0,none⟩))
      have q43_:=hs_.val 10 rfl rfl rfl
      refine Rn.val fun K_ hK_ => ?_
      go_simp
      exact hK_.out _ (Ext.refl _)
    refine RnL.cons (fun g8 A_ W_ hs_ => ?_) ?_
    · have q44_:=hs_.val 11 rfl rfl rfl
      have cB3_1:=((HB3_8.out.drew.ext hs_.1)).cell 1 rfl
      refine Rn.val fun K_ hK_ => ?_
      go_simp
      exact hK_.out _ (Ext.refl _)
    refine RnL.cons (fun g8 A_ W_ hs_ => ?_) ?_
    · have q45_:=hs_.val 12 rfl rfl rfl
      refine Rn.val fun K_ hK_ => ?_
      go_simp
      try go_bits
      exact hK_.out _ (Ext.refl _)
    refine RnL.cons (fun g8 A_ W_ hs_ => ?_) ?_
    · have q35_:=hs_.val 2 rfl rfl rfl
      have q39_:=hs_.val 6 rfl rfl rfl
      have q42_:=hs_.val 9 rfl rfl rfl
      have q46_:=hs_.val 13 rfl rfl rfl
      refine Rn.val fun K_ hK_ => ?_
      go_simp
      exact hK_.out _ (Ext.refl _)
    refine RnL.cons (fun g8 A_ W_ hs_ => ?_) ?_
    · have q47_:=hs_.val 14 rfl rfl rfl
      refine Rn.val fun K_ hK_ => ?_
      go_simp
      exact hK_.out _ (Ext.refl _)
    exact RnL.nil
  simp only [fs,Kd.value,puts,Act.put,List.setIfInBounds_toArray,List.set_cons_zero,List.set_cons_succ]
  have HX9:Hid (Ext w w9):=Lib.hid (HX8.out.drew.trans hx_)
  have HB0_9:=Lib.hid (HB0_8.out.drew.ext hx_)
  have HB1_9:=Lib.hid (HB1_8.out.drew.ext hx_)
  have HB2_9:=Lib.hid (HB2_8.out.drew.ext hx_)
  have HB3_9:=Lib.hid (HB3_8.out.drew.ext hx_)
  clear hx_ hm_ hne_
  go_wp2_with fail
  rw [rounds_succ]
  go_wp2_with fail
  refine wp_name (fun W => Ext w W∧Blk W (w.heap.size) #[.int .i64 a.w,.int .i64 a.x,.int .i64 a.y,.int .i64 a.z] 22∧Blk W (w.heap.size + 1) #[.int .i64 b.w,.int .i64 b.x,.int .i64 b.y,.int .i64 b.z] 22∧Blk W (i2) #[.int .i64 x.w,.int .i64 x.x,.int .i64 x.y,.int .i64 x.z] 22∧Blk W (i3) #[.int .i64 y.w,.int .i64 y.x,.int .i64 y.y,.int .i64 y.z] 22) ⟨HX9.out,HB0_9.out,HB1_9.out,HB2_9.out,HB3_9.out⟩ ?_
  rintro w10 ⟨e10,bB0_10,bB1_10,bB2_10,bB3_10⟩
  have HX10:=Lib.hid e10;have HB0_10:=Lib.hid bB0_10;have HB1_10:=Lib.hid bB1_10;have HB2_10:=Lib.hid bB2_10;have HB3_10:=Lib.hid bB3_10
  clear e10 bB0_10 bB1_10 bB2_10 bB3_10
  refine region_lin [.val (.int .i64 2),.val (.pointer (some ⟨i2,2,none⟩)),.val (.int .i64 x.y),.val (.int .i64 2),.val (.pointer (some ⟨i2,2,none⟩)),.val (.int .i64 x.y),.val (.int .i64 (-x.y)),.val (.int .i64 2),.val (.pointer (some ⟨i3,2,none⟩)),.val (.int .i64 y.y),.val (.int .i64 2),.val (.pointer (some ⟨i3,2,none⟩)),.val (.int .i64 y.y),.val (.int .i64 (-y.y)),.val (.int .i64 (max x.y (max (-x.y) (max y.y (-y.y))))),.val (.bool false)] (by kernel_rfl) (by kernel_rfl) (by kernel_rfl) ?_ (fun g10 w11 hx_ hm_ hne_ => ?_)
  · skip
    refine RnL.cons (fun g10 A_ W_ hs_ => ?_) ?_
    · have q7_:=(hs_.old 7 (by kernel_rfl):A_.tmps[7]?.getD undef = .int .i64 2)
      refine Rn.val fun K_ hK_ => ?_
      go_simp
      exact hK_.out _ (Ext.refl _)
    refine RnL.cons (fun g10 A_ W_ hs_ => ?_) ?_
    · have q5_:=(hs_.old 5 (by kernel_rfl):A_.tmps[5]?.getD undef = .pointer (some ⟨i2,0,none⟩))
      have q33_:=hs_.val 0 rfl rfl rfl
      refine Rn.val fun K_ hK_ => ?_
      go_simp
      exact hK_.out _ (Ext.refl _)
    refine RnL.cons (fun g10 A_ W_ hs_ => ?_) ?_
    · have q34_:=hs_.val 1 rfl rfl rfl
      have cB2_2:=((HB2_10.out.drew.ext hs_.1)).cell 2 rfl
      refine Rn.val fun K_ hK_ => ?_
      go_simp
      exact hK_.out _ (Ext.refl _)
    refine RnL.cons (fun g10 A_ W_ hs_ => ?_) ?_
    · have q7_:=(hs_.old 7 (by kernel_rfl):A_.tmps[7]?.getD undef = .int .i64 2)
      refine Rn.val fun K_ hK_ => ?_
      go_simp
      exact hK_.out _ (Ext.refl _)
    refine RnL.cons (fun g10 A_ W_ hs_ => ?_) ?_
    · have q5_:=(hs_.old 5 (by kernel_rfl):A_.tmps[5]?.getD undef = .pointer (some ⟨i2,0,none⟩))
      have q36_:=hs_.val 3 rfl rfl rfl
      refine Rn.val fun K_ hK_ => ?_
      go_simp
      exact hK_.out _ (Ext.refl _)
    refine RnL.cons (fun g10 A_ W_ hs_ => ?_) ?_
    · have q37_:=hs_.val 4 rfl rfl rfl
      have cB2_2:=((HB2_10.out.drew.ext hs_.1)).cell 2 rfl
      refine Rn.val fun K_ hK_ => ?_
      go_simp
      exact hK_.out _ (Ext.refl _)
    refine RnL.cons (fun g10 A_ W_ hs_ => ?_) ?_
    · have q38_:=hs_.val 5 rfl rfl rfl
      refine Rn.val fun K_ hK_ => ?_
      go_simp
      try go_bits
      exact hK_.out _ (Ext.refl _)
    refine RnL.cons (fun g10 A_ W_ hs_ => ?_) ?_
    · have q7_:=(hs_.old 7 (by kernel_rfl):A_.tmps[7]?.getD undef = .int .i64 2)
      refine Rn.val fun K_ hK_ => ?_
      go_simp
      exact hK_.out _ (Ext.refl _)
    refine RnL.cons (fun g10 A_ W_ hs_ => ?_) ?_
    · have q6_:=(hs_.old 6 (by kernel_rfl):A_.tmps[6]?.getD undef = .pointer (some ⟨i3,0,none⟩))
      have q40_:=hs_.val 7 rfl rfl rfl
      refine Rn.val fun K_ hK_ => ?_
      go_simp
      exact hK_.out _ (Ext.refl _)
    refine RnL.cons (fun g10 A_ W_ hs_ => ?_) ?_
    · have q41_:=hs_.val 8 rfl rfl rfl
      have cB3_2:=((HB3_10.out.drew.ext hs_.1)).cell 2 rfl
      refine Rn.val fun K_ hK_ => ?_
      go_simp
      exact hK_.out _ (Ext.refl _)
    refine RnL.cons (fun g10 A_ W_ hs_ => ?_) ?_
    · have q7_:=(hs_.old 7 (by kernel_rfl):A_.tmps[7]?.getD undef = .int .i64 2)
      refine Rn.val fun K_ hK_ => ?_
      go_simp
      exact hK_.out _ (Ext.refl _)
    refine RnL.cons (fun g10 A_ W_ hs_ => ?_) ?_
    · have q6_:=(hs_.old 6 (by kernel_rfl):A_.tmps[6]?.getD undef = .pointer (some ⟨i3,0,none⟩))
      have q43_:=hs_.val 10 rfl rfl rfl
      refine Rn.val fun K_ hK_ => ?_
      go_simp
      exact hK_.out _ (Ext.refl _)
    refine RnL.cons (fun g10 A_ W_ hs_ => ?_) ?_
    · have q44_:=hs_.val 11 rfl rfl rfl
      have cB3_2:=((HB3_10.out.drew.ext hs_.1)).cell 2 rfl
      refine Rn.val fun K_ hK_ => ?_
      go_simp
      exact hK_.out _ (Ext.refl _)
    refine RnL.cons (fun g10 A_ W_ hs_ => ?_) ?_
    · have q45_:=hs_.val 12 rfl rfl rfl
      refine Rn.val fun K_ hK_ => ?_
      go_simp
      try go_bits
      exact hK_.out _ (Ext.refl _)
    refine RnL.cons (fun g10 A_ W_ hs_ => ?_) ?_
    · have q35_:=hs_.val 2 rfl rfl rfl
      have q39_:=hs_.val 6 rfl rfl rfl
      have q42_:=hs_.val 9 rfl rfl rfl
      have q46_:=hs_.val 13 rfl rfl rfl
      refine Rn.val fun K_ hK_ => ?_
      go_simp
      exact hK_.out _ (Ext.refl _)
    refine RnL.cons (fun g10 A_ W_ hs_ => ?_) ?_
    · have q47_:=hs_.val 14 rfl rfl rfl
      refine Rn.val fun K_ hK_ => ?_
      go_simp
      exact hK_.out _ (Ext.refl _)
    exact RnL.nil
  simp only [fs,Kd.value,puts,Act.put,List.setIfInBounds_toArray,List.set_cons_zero,List.set_cons_succ]
  have HX11:Hid (Ext w w11):=Lib.hid (HX10.out.drew.trans hx_)
  have HB0_11:=Lib.hid (HB0_10.out.drew.ext hx_)
  have HB1_11:=Lib.hid (HB1_10.out.drew.ext hx_)
  have HB2_11:=Lib.hid (HB2_10.out.drew.ext hx_)
  have HB3_11:=Lib.hid (HB3_10.out.drew.ext hx_)
  clear hx_ hm_ hne_
  go_wp2_with fail
  rw [rounds_succ]
  go_wp2_with fail
  refine wp_name (fun W => Ext w W∧Blk W (w.heap.size) #[.int .i64 a.w,.int .i64 a.x,.int .i64 a.y,.int .i64 a.z] 22∧Blk W (w.heap.size + 1) #[.int .i64 b.w,.int .i64 b.x,.int .i64 b.y,.int .i64 b.z] 22∧Blk W (i2) #[.int .i64 x.w,.int .i64 x.x,.int .i64 x.y,.int .i64 x.z] 22∧Blk W (i3) #[.int .i64 y.w,.int .i64 y.x,.int .i64 y.y,.int .i64 y.z] 22) ⟨HX11.out,HB0_11.out,HB1_11.out,HB2_11.out,HB3_11.out⟩ ?_
  rintro w12 ⟨e12,bB0_12,bB1_12,bB2_12,bB3_12⟩
  have HX12:=Lib.hid e12;have HB0_12:=Lib.hid bB0_12;have HB1_12:=Lib.hid bB1_12;have HB2_12:=Lib.hid bB2_12;have HB3_12:=Lib.hid bB3_12
  clear e12 bB0_12 bB1_12 bB2_12 bB3_12
  refine region_lin [.val (.int .i64 3),.val (.pointer (some ⟨i2,3,none⟩)),.val (.int .i64 x.z),.val (.int .i64 3),.val (.pointer (some ⟨i2,3,none⟩)),.val (.int .i64 x.z),.val (.int .i64 (-x.z)),.val (.int .i64 3),.val (.pointer (some ⟨i3,3,none⟩)),.val (.int .i64 y.z),.val (.int .i64 3),.val (.pointer (some ⟨i3,3,none⟩)),.val (.int .i64 y.z),.val (.int .i64 (-y.z)),.val (.int .i64 (max x.z (max (-x.z) (max y.z (-y.z))))),.val (.bool false)] (by kernel_rfl) (by kernel_rfl) (by kernel_rfl) ?_ (fun g12 w13 hx_ hm_ hne_ => ?_)
  · skip
    refine RnL.cons (fun g12 A_ W_ hs_ => ?_) ?_
    · have q7_:=(hs_.old 7 (by kernel_rfl):A_.tmps[7]?.getD undef = .int .i64 3)
      refine Rn.val fun K_ hK_ => ?_
      go_simp
      exact hK_.out _ (Ext.refl _)
    refine RnL.cons (fun g12 A_ W_ hs_ => ?_) ?_
    · have q5_:=(hs_.old 5 (by kernel_rfl):A_.tmps[5]?.getD undef = .pointer (some ⟨i2,0,none⟩))
      have q33_:=hs_.val 0 rfl rfl rfl
      refine Rn.val fun K_ hK_ => ?_
      go_simp
      exact hK_.out _ (Ext.refl _)
    refine RnL.cons (fun g12 A_ W_ hs_ => ?_) ?_
    · have q34_:=hs_.val 1 rfl rfl rfl
      have cB2_3:=((HB2_12.out.drew.ext hs_.1)).cell 3 rfl
      refine Rn.val fun K_ hK_ => ?_
      go_simp
      exact hK_.out _ (Ext.refl _)
    refine RnL.cons (fun g12 A_ W_ hs_ => ?_) ?_
    · have q7_:=(hs_.old 7 (by kernel_rfl):A_.tmps[7]?.getD undef = .int .i64 3)
      refine Rn.val fun K_ hK_ => ?_
      go_simp
      exact hK_.out _ (Ext.refl _)
    refine RnL.cons (fun g12 A_ W_ hs_ => ?_) ?_
    · have q5_:=(hs_.old 5 (by kernel_rfl):A_.tmps[5]?.getD undef = .pointer (some ⟨i2,0,none⟩))
      have q36_:=hs_.val 3 rfl rfl rfl
      refine Rn.val fun K_ hK_ => ?_
      go_simp
      exact hK_.out _ (Ext.refl _)
    refine RnL.cons (fun g12 A_ W_ hs_ => ?_) ?_
    · have q37_:=hs_.val 4 rfl rfl rfl
      have cB2_3:=((HB2_12.out.drew.ext hs_.1)).cell 3 rfl
      refine Rn.val fun K_ hK_ => ?_
      go_simp
      exact hK_.out _ (Ext.refl _)
    refine RnL.cons (fun g12 A_ W_ hs_ => ?_) ?_
    · have q38_:=hs_.val 5 rfl rfl rfl
      refine Rn.val fun K_ hK_ => ?_
      go_simp
      try go_bits
      exact hK_.out _ (Ext.refl _)
    refine RnL.cons (fun g12 A_ W_ hs_ => ?_) ?_
    · have q7_:=(hs_.old 7 (by kernel_rfl):A_.tmps[7]?.getD undef = .int .i64 3)
      refine Rn.val fun K_ hK_ => ?_
      go_simp
      exact hK_.out _ (Ext.refl _)
    refine RnL.cons (fun g12 A_ W_ hs_ => ?_) ?_
    · have q6_:=(hs_.old 6 (by kernel_rfl):A_.tmps[6]?.getD undef = .pointer (some ⟨i3,0,none⟩))
      have q40_:=hs_.val 7 rfl rfl rfl
      refine Rn.val fun K_ hK_ => ?_
      go_simp
      exact hK_.out _ (Ext.refl _)
    refine RnL.cons (fun g12 A_ W_ hs_ => ?_) ?_
    · have q41_:=hs_.val 8 rfl rfl rfl
      have cB3_3:=((HB3_12.out.drew.ext hs_.1)).cell 3 rfl
      refine Rn.val fun K_ hK_ => ?_
      go_simp
      exact hK_.out _ (Ext.refl _)
    refine RnL.cons (fun g12 A_ W_ hs_ => ?_) ?_
    · have q7_:=(hs_.old 7 (by kernel_rfl):A_.tmps[7]?.getD undef = .int .i64 3)
      refine Rn.val fun K_ hK_ => ?_
      go_simp
      exact hK_.out _ (Ext.refl _)
    refine RnL.cons (fun g12 A_ W_ hs_ => ?_) ?_
    · have q6_:=(hs_.old 6 (by kernel_rfl):A_.tmps[6]?.getD undef = .pointer (some ⟨i3,0,none⟩))
      have q43_:=hs_.val 10 rfl rfl rfl
      refine Rn.val fun K_ hK_ => ?_
      go_simp
      exact hK_.out _ (Ext.refl _)
    refine RnL.cons (fun g12 A_ W_ hs_ => ?_) ?_
    · have q44_:=hs_.val 11 rfl rfl rfl
      have cB3_3:=((HB3_12.out.drew.ext hs_.1)).cell 3 rfl
      refine Rn.val fun K_ hK_ => ?_
      go_simp
      exact hK_.out _ (Ext.refl _)
    refine RnL.cons (fun g12 A_ W_ hs_ => ?_) ?_
    · have q45_:=hs_.val 12 rfl rfl rfl
      refine Rn.val fun K_ hK_ => ?_
      go_simp
      try go_bits
      exact hK_.out _ (Ext.refl _)
    refine RnL.cons (fun g12 A_ W_ hs_ => ?_) ?_
    · have q35_:=hs_.val 2 rfl rfl rfl
      have q39_:=hs_.val 6 rfl rfl rfl
      have q42_:=hs_.val 9 rfl rfl rfl
      have q46_:=hs_.val 13 rfl rfl rfl
      refine Rn.val fun K_ hK_ => ?_
      go_simp
      exact hK_.out _ (Ext.refl _)
    refine RnL.cons (fun g12 A_ W_ hs_ => ?_) ?_
    · have q47_:=hs_.val 14 rfl rfl rfl
      refine Rn.val fun K_ hK_ => ?_
      go_simp
      exact hK_.out _ (Ext.refl _)
    exact RnL.nil
  simp only [fs,Kd.value,puts,Act.put,List.setIfInBounds_toArray,List.set_cons_zero,List.set_cons_succ]
  have HX13:Hid (Ext w w13):=Lib.hid (HX12.out.drew.trans hx_)
  have HB0_13:=Lib.hid (HB0_12.out.drew.ext hx_)
  have HB1_13:=Lib.hid (HB1_12.out.drew.ext hx_)
  have HB2_13:=Lib.hid (HB2_12.out.drew.ext hx_)
  have HB3_13:=Lib.hid (HB3_12.out.drew.ext hx_)
  clear hx_ hm_ hne_
  go_wp2_with fail
  rw [rounds_succ]
  have c0_0:=HB0_13.out.cell 0 rfl
  have c0_1:=HB0_13.out.cell 1 rfl
  have c0_2:=HB0_13.out.cell 2 rfl
  have c0_3:=HB0_13.out.cell 3 rfl
  have c1_0:=HB1_13.out.cell 0 rfl
  have c1_1:=HB1_13.out.cell 1 rfl
  have c1_2:=HB1_13.out.cell 2 rfl
  have c1_3:=HB1_13.out.cell 3 rfl
  go_wp2_with fail
  refine (rcomp_ok a b p _ (HG.out.ext HX13.out) HEA.out HEB.out HIA.out HIB.out HZA.out HZB.out HEC.out HE.out).mono ?_;rintro e w14 ⟨rfl,e14⟩
  have HX14:Hid (Ext w w14):=Lib.hid (HX13.out.trans e14)
  have HB2_14:=Lib.hid (Blk.ext HB2_13.out e14)
  have HB3_14:=Lib.hid (Blk.ext HB3_13.out e14)
  clear e14 c0_0 c0_1 c0_2 c0_3 c1_0 c1_1 c1_2 c1_3
  go_upto_region 10 with fail
  refine wp_name (fun W => Ext w W∧Blk W (i2) #[.int .i64 x.w,.int .i64 x.x,.int .i64 x.y,.int .i64 x.z] 22∧Blk W (i3) #[.int .i64 y.w,.int .i64 y.x,.int .i64 y.y,.int .i64 y.z] 22∧Blk W (w14.heap.size) #[.int .i64 p.w,.int .i64 p.x,.int .i64 p.y,.int .i64 p.z] 22) ⟨(HX14.out.alloc _),(HB2_14.out.alloc _),(HB3_14.out.alloc _),(Blk.new' (w:=_) (cs:=#[.int .i64 p.w,.int .i64 p.x,.int .i64 p.y,.int .i64 p.z]) (t:=22) (by first | rfl | (simp only [World.size_alloc];done) | (simp only [World.size_alloc];omega) | simp))⟩ ?_
  rintro w15 ⟨e15,bB2_15,bB3_15,bB4_15⟩
  have HX15:=Lib.hid e15;have HB2_15:=Lib.hid bB2_15;have HB3_15:=Lib.hid bB3_15;have HB4_15:=Lib.hid bB4_15
  have HGEB4:Hid (w.heap.size ≤ w14.heap.size):=Lib.hid (by have:=HX14.out.size;first | omega | (simp only [];omega) | (simp;omega))
  clear e15 bB2_15 bB3_15 bB4_15
  have c2_0:=HB2_15.out.cell 0 rfl
  have c2_1:=HB2_15.out.cell 1 rfl
  have c2_2:=HB2_15.out.cell 2 rfl
  have c2_3:=HB2_15.out.cell 3 rfl
  have c3_0:=HB3_15.out.cell 0 rfl
  have c3_1:=HB3_15.out.cell 1 rfl
  have c3_2:=HB3_15.out.cell 2 rfl
  have c3_3:=HB3_15.out.cell 3 rfl
  go_wp2_with fail
  refine (lprod_as x y q HQ9.out _ (HG.out.ext HX15.out) HIX.out HIY.out).mono ?_;rintro e w16 ⟨rfl,e16⟩
  have HX16:Hid (Ext w w16):=Lib.hid (HX15.out.trans e16)
  have HB4_16:=Lib.hid (Blk.ext HB4_15.out e16)
  clear e16 c2_0 c2_1 c2_2 c2_3 c3_0 c3_1 c3_2 c3_3
  go_wp2_with fail
  refine (lprim_as q p HEP.out _ (HG.out.ext HX16.out) HQB.out HQZ.out).mono ?_;rintro e w17 ⟨rfl,e17⟩
  have HX17:Hid (Ext w w17):=Lib.hid (HX16.out.trans e17)
  have HB4_17:=Lib.hid (Blk.ext HB4_16.out e17)
  clear e17
  go_upto_region 11 with fail
  refine wp_name (fun W => Ext w W∧Blk W (w14.heap.size) #[.int .i64 p.w,.int .i64 p.x,.int .i64 p.y,.int .i64 p.z] 22∧Blk W (w17.heap.size) #[.int .i64 p.w,.int .i64 p.x,.int .i64 p.y,.int .i64 p.z] 22) ⟨(HX17.out.alloc _),(HB4_17.out.alloc _),(Blk.new' (w:=_) (cs:=#[.int .i64 p.w,.int .i64 p.x,.int .i64 p.y,.int .i64 p.z]) (t:=22) (by first | rfl | (simp only [World.size_alloc];done) | (simp only [World.size_alloc];omega) | simp))⟩ ?_
  rintro w18 ⟨e18,bB4_18,bB5_18⟩
  have HX18:=Lib.hid e18;have HB4_18:=Lib.hid bB4_18;have HB5_18:=Lib.hid bB5_18
  have HGEB5:Hid (w.heap.size ≤ w17.heap.size):=Lib.hid (by have:=HX17.out.size;first | omega | (simp only [];omega) | (simp;omega))
  clear e18 bB4_18 bB5_18
  have c5_0:=HB5_18.out.cell 0 rfl
  have c5_1:=HB5_18.out.cell 1 rfl
  have c5_2:=HB5_18.out.cell 2 rfl
  have c5_3:=HB5_18.out.cell 3 rfl
  go_wp2_with fail
  refine (lchk_l _ (HG.out.ext HX18.out) HE.out).mono ?_;rintro e w19 ⟨rfl,e19⟩
  have HX19:Hid (Ext w w19):=Lib.hid (HX18.out.trans e19)
  have HB4_19:=Lib.hid (Blk.ext HB4_18.out e19)
  have HB5_19:=Lib.hid (Blk.ext HB5_18.out e19)
  clear e19 c5_0 c5_1 c5_2 c5_3
  have c4_0:=HB4_19.out.cell 0 rfl
  have c4_1:=HB4_19.out.cell 1 rfl
  have c4_2:=HB4_19.out.cell 2 rfl
  have c4_3:=HB4_19.out.cell 3 rfl
  have c5_0:=HB5_19.out.cell 0 rfl
  have c5_1:=HB5_19.out.cell 1 rfl
  have c5_2:=HB5_19.out.cell 2 rfl
  have c5_3:=HB5_19.out.cell 3 rfl
  go_wp2
  go_ret
  exact ⟨rfl,HX19.out⟩

set_option maxRecDepth 100000 in
set_option maxHeartbeats 16000000 in
theorem comp17_l (a b x y p:Q4) (e:Int) (w:World) (g:Gd w) (hea:QErr a 0) (heb:QErr b 0) (hia:Q4In a) (hib:Q4In b) (hza:¬ a.zero) (hzb:¬ b.zero) (hx:prim4 a = x) (hy:prim4 b = y) (h0:¬ 10000 < max x.w (max (-x.w) (max y.w (-y.w)))) (h1:¬ 10000 < max x.x (max (-x.x) (max y.x (-y.x)))) (h2:¬ 10000 < max x.y (max (-x.y) (max y.y (-y.y)))) (h3:¬ 10000 < max x.z (max (-x.z) (max y.z (-y.z)))) (hp:prim4 (prod4 x y) = p) (he:QErr p e) (hne:e ≠ 0):Calls Tryz.prog 6 #[.agg #[.int .i64 a.w,.int .i64 a.x,.int .i64 a.y,.int .i64 a.z],.agg #[.int .i64 b.w,.int .i64 b.x,.int .i64 b.y,.int .i64 b.z]] w (Ret w (.bool true)):=by
  have HEA:=Lib.hid hea
  have HEB:=Lib.hid heb
  have HIA:=Lib.hid hia
  have HIB:=Lib.hid hib
  have HZA:=Lib.hid hza
  have HZB:=Lib.hid hzb
  have HX9:=Lib.hid hx
  have HY9:=Lib.hid hy
  have HP9:=Lib.hid hp
  have HE:=Lib.hid he
  have HNE:=Lib.hid hne
  have HG:=Lib.hid g
  clear hea heb hia hib hza hzb hx hy hp he hne g
  have mqw:=run_max4 x.w (-x.w) y.w (-y.w)
  have mqx:=run_max4 x.x (-x.x) y.x (-y.x)
  have mqy:=run_max4 x.y (-x.y) y.y (-y.y)
  have mqz:=run_max4 x.z (-x.z) y.z (-y.z)
  have HIX:Hid (Q4In x):=Lib.hid (HX9.out ▸ prim4_in HIA.out);have HIY:Hid (Q4In y):=Lib.hid (HY9.out ▸ prim4_in HIB.out)
  have ix:=HIX.out;have iy:=HIY.out;have bxw:=ix.w;have bxx:=ix.x;have bxy:=ix.y;have bxz:=ix.z;have byw:=iy.w;have byx:=iy.x;have byy:=iy.y;have byz:=iy.z;clear ix iy
  have m0_:decide ((10000:Int) < max x.w (max (-x.w) (max y.w (-y.w)))) = false:=decide_eq_false (by omega)
  have m1_:decide ((10000:Int) < max x.x (max (-x.x) (max y.x (-y.x)))) = false:=decide_eq_false (by omega)
  have m2_:decide ((10000:Int) < max x.y (max (-x.y) (max y.y (-y.y)))) = false:=decide_eq_false (by omega)
  have m3_:decide ((10000:Int) < max x.z (max (-x.z) (max y.z (-y.z)))) = false:=decide_eq_false (by omega)
  clear h0 h1 h2 h3
  obtain ⟨q,eq_⟩:∃ q,prod4 x y = q:=⟨_,rfl⟩
  have HQ9:=Lib.hid eq_;have HQB:Hid (Q4Bd q):=Lib.hid (eq_ ▸ prod4_bd HIX.out HIY.out);have HQZ:Hid (¬ q.zero):=Lib.hid (by rw [← eq_,← HX9.out,← HY9.out];exact prod4_nz (prim4_nz HZA.out) (prim4_nz HZB.out));clear eq_
  have HEP:Hid (prim4 q = p):=Lib.hid (by rw [← HQ9.out];exact HP9.out)
  have HEC:Hid (prim4 (prod4 a b) = p):=Lib.hid (by rw [prim4_prod HZA.out HZB.out,HX9.out,HY9.out,HQ9.out];exact HEP.out)
  have he_n:(e != 0) = true:=bne_iff_ne.2 HNE.out
  have he_e:(e == 0) = false:=beq_eq_false_iff_ne.2 HNE.out
  have eqa0:=eq4 0 0 0 0 0 0 0 0
  go_enter Tryz.func6,Tryz.ntmps6
  go_wp2_with fail
  refine (known17_c _ (HG.out.ext (((Ext.refl w).alloc _).alloc _))).mono ?_;rintro e w1 ⟨rfl,e1⟩
  have HX1:Hid (Ext w w1):=Lib.hid ((((Ext.refl w).alloc _).alloc _).trans e1)
  have HB0_1:Hid (Blk w1 (w.heap.size) #[.int .i64 a.w,.int .i64 a.x,.int .i64 a.y,.int .i64 a.z] 22):=Lib.hid (Blk.ext ((Blk.new' (w:=_) (cs:=#[.int .i64 a.w,.int .i64 a.x,.int .i64 a.y,.int .i64 a.z]) (t:=22) (by first | rfl | (simp only [World.size_alloc];done) | (simp only [World.size_alloc];omega) | simp)).alloc _) e1)
  have HB1_1:Hid (Blk w1 (w.heap.size + 1) #[.int .i64 b.w,.int .i64 b.x,.int .i64 b.y,.int .i64 b.z] 22):=Lib.hid (Blk.ext (Blk.new' (w:=_) (cs:=#[.int .i64 b.w,.int .i64 b.x,.int .i64 b.y,.int .i64 b.z]) (t:=22) (by first | rfl | (simp only [World.size_alloc];done) | (simp only [World.size_alloc];omega) | simp)) e1)
  have HGEB0:Hid (w.heap.size ≤ w.heap.size):=Lib.hid (by first | omega | (simp only [];omega) | (simp;omega))
  have HGEB1:Hid (w.heap.size ≤ w.heap.size + 1):=Lib.hid (by first | omega | (simp only [];omega) | (simp;omega))
  clear e1
  have c0_0:=HB0_1.out.cell 0 rfl
  have c0_1:=HB0_1.out.cell 1 rfl
  have c0_2:=HB0_1.out.cell 2 rfl
  have c0_3:=HB0_1.out.cell 3 rfl
  go_wp2_with fail
  refine (lchk_l _ (HG.out.ext HX1.out) HEA.out).mono ?_;rintro e w2 ⟨rfl,e2⟩
  have HX2:Hid (Ext w w2):=Lib.hid (HX1.out.trans e2)
  have HB0_2:=Lib.hid (Blk.ext HB0_1.out e2)
  have HB1_2:=Lib.hid (Blk.ext HB1_1.out e2)
  clear e2 c0_0 c0_1 c0_2 c0_3
  have c1_0:=HB1_2.out.cell 0 rfl
  have c1_1:=HB1_2.out.cell 1 rfl
  have c1_2:=HB1_2.out.cell 2 rfl
  have c1_3:=HB1_2.out.cell 3 rfl
  go_wp2_with fail
  refine (lchk_l _ (HG.out.ext HX2.out) HEB.out).mono ?_;rintro e w3 ⟨rfl,e3⟩
  have HX3:Hid (Ext w w3):=Lib.hid (HX2.out.trans e3)
  have HB0_3:=Lib.hid (Blk.ext HB0_2.out e3)
  have HB1_3:=Lib.hid (Blk.ext HB1_2.out e3)
  clear e3 c1_0 c1_1 c1_2 c1_3
  go_wp2_with fail
  refine wp_name (fun W => Ext w W∧Blk W (w.heap.size) #[.int .i64 a.w,.int .i64 a.x,.int .i64 a.y,.int .i64 a.z] 22∧Blk W (w.heap.size + 1) #[.int .i64 b.w,.int .i64 b.x,.int .i64 b.y,.int .i64 b.z] 22) ⟨HX3.out,HB0_3.out,HB1_3.out⟩ ?_
  rintro w4 ⟨e4,bB0_4,bB1_4⟩
  have HX4:=Lib.hid e4;have HB0_4:=Lib.hid bB0_4;have HB1_4:=Lib.hid bB1_4
  clear e4 bB0_4 bB1_4
  refine region_lin [.val (.agg #[.int .i64 a.w,.int .i64 a.x,.int .i64 a.y,.int .i64 a.z]),.val (.agg #[.int .i64 x.w,.int .i64 x.x,.int .i64 x.y,.int .i64 x.z]),.val (.agg #[.int .i64 b.w,.int .i64 b.x,.int .i64 b.y,.int .i64 b.z]),.val (.agg #[.int .i64 y.w,.int .i64 y.x,.int .i64 y.y,.int .i64 y.z]),.mem (fun b_ => .pointer (some ⟨b_,0,none⟩)) #[.int .i64 0,.int .i64 0,.int .i64 0,.int .i64 0] 22 (Option.some 6),.mem (fun b_ => .pointer (some ⟨b_,0,none⟩)) #[.int .i64 0,.int .i64 0,.int .i64 0,.int .i64 0] 22 (Option.some 7),.put 4 #[.int .i64 x.w,.int .i64 x.x,.int .i64 x.y,.int .i64 x.z],.put 5 #[.int .i64 y.w,.int .i64 y.x,.int .i64 y.y,.int .i64 y.z]] (by kernel_rfl) (by kernel_rfl) (by kernel_rfl) ?_ (fun g4 w5 hx_ hm_ hne_ => ?_)
  · skip
    refine RnL.cons (fun g4 A_ W_ hs_ => ?_) ?_
    · have q2_:=(hs_.old 2 (by kernel_rfl):A_.tmps[2]?.getD undef = .pointer (some ⟨w.heap.size,0,none⟩))
      have cB0_0:=((HB0_4.out.drew.ext hs_.1)).cell 0 rfl
      have cB0_1:=((HB0_4.out.drew.ext hs_.1)).cell 1 rfl
      have cB0_2:=((HB0_4.out.drew.ext hs_.1)).cell 2 rfl
      have cB0_3:=((HB0_4.out.drew.ext hs_.1)).cell 3 rfl
      refine Rn.val fun K_ hK_ => ?_
      go_simp
      exact hK_.out _ (Ext.refl _)
    refine RnL.cons (fun g4 A_ W_ hs_ => ?_) ?_
    · have q25_:=hs_.val 0 rfl rfl rfl
      refine Rn.val fun K_ hK_ => ?_
      go_simp
      refine (lprim_as a x HX9.out _ (HG.out.ext (HX4.out.drew.trans hs_.1)) HIA.out.bd HZA.out).mono ?_;rintro e W9_ ⟨rfl,e9_⟩;exact hK_.out _ e9_
    refine RnL.cons (fun g4 A_ W_ hs_ => ?_) ?_
    · have q3_:=(hs_.old 3 (by kernel_rfl):A_.tmps[3]?.getD undef = .pointer (some ⟨w.heap.size + 1,0,none⟩))
      have cB1_0:=((HB1_4.out.drew.ext hs_.1)).cell 0 rfl
      have cB1_1:=((HB1_4.out.drew.ext hs_.1)).cell 1 rfl
      have cB1_2:=((HB1_4.out.drew.ext hs_.1)).cell 2 rfl
      have cB1_3:=((HB1_4.out.drew.ext hs_.1)).cell 3 rfl
      refine Rn.val fun K_ hK_ => ?_
      go_simp
      exact hK_.out _ (Ext.refl _)
    refine RnL.cons (fun g4 A_ W_ hs_ => ?_) ?_
    · have q27_:=hs_.val 2 rfl rfl rfl
      refine Rn.val fun K_ hK_ => ?_
      go_simp
      refine (lprim_as b y HY9.out _ (HG.out.ext (HX4.out.drew.trans hs_.1)) HIB.out.bd HZB.out).mono ?_;rintro e W9_ ⟨rfl,e9_⟩;exact hK_.out _ e9_
    refine RnL.cons (fun g4 A_ W_ hs_ => ?_) ?_
    · refine Rn.mem fun K_ hK_ => ?_
      go_simp
      exact hK_.out
    refine RnL.cons (fun g4 A_ W_ hs_ => ?_) ?_
    · refine Rn.mem fun K_ hK_ => ?_
      go_simp
      exact hK_.out
    refine RnL.cons (fun g4 A_ W_ hs_ => ?_) ?_
    · have q5_:=(hs_.mem 4 rfl rfl rfl).1
      have q26_:=hs_.val 1 rfl rfl rfl
      refine Rn.put (z:=#[.int .i64 0,.int .i64 0,.int .i64 0,.int .i64 0]) (t:=22) rfl fun hB K_ hK_ => ?_
      have c_0:=hB.cell 0 rfl;have f_0:=hB.free 0
      have c_1:=hB.cell 1 rfl;have f_1:=hB.free 1
      have c_2:=hB.cell 2 rfl;have f_2:=hB.free 2
      have c_3:=hB.cell 3 rfl;have f_3:=hB.free 3
      have HB:=Lib.hid hB;clear hB
      go_simp
      exact hK_.out _ (((((Only.refl _ _).set 0 _).set 1 _).set 2 _).set 3 _) ((((HB.out.set 0 _).set 1 _).set 2 _).set 3 _)
    refine RnL.cons (fun g4 A_ W_ hs_ => ?_) ?_
    · have q6_:=(hs_.mem 5 rfl rfl rfl).1
      have q28_:=hs_.val 3 rfl rfl rfl
      refine Rn.put (z:=#[.int .i64 0,.int .i64 0,.int .i64 0,.int .i64 0]) (t:=22) rfl fun hB K_ hK_ => ?_
      have c_0:=hB.cell 0 rfl;have f_0:=hB.free 0
      have c_1:=hB.cell 1 rfl;have f_1:=hB.free 1
      have c_2:=hB.cell 2 rfl;have f_2:=hB.free 2
      have c_3:=hB.cell 3 rfl;have f_3:=hB.free 3
      have HB:=Lib.hid hB;clear hB
      go_simp
      exact hK_.out _ (((((Only.refl _ _).set 0 _).set 1 _).set 2 _).set 3 _) ((((HB.out.set 0 _).set 1 _).set 2 _).set 3 _)
    exact RnL.nil
  simp only [fs,Kd.value,puts,Act.put,List.setIfInBounds_toArray,List.set_cons_zero,List.set_cons_succ,Nat.reduceAdd]
  have HX5:Hid (Ext w w5):=Lib.hid (HX4.out.drew.trans hx_)
  have HB0_5:=Lib.hid (HB0_4.out.drew.ext hx_)
  have HB1_5:=Lib.hid (HB1_4.out.drew.ext hx_)
  have HB2_5:Hid (Blk w5 (g4 4) #[.int .i64 x.w,.int .i64 x.x,.int .i64 x.y,.int .i64 x.z] 22):=Lib.hid (hm_ 4 _ _ _ _ rfl).2;have HGEB2:Hid (w.heap.size ≤ g4 4):=Lib.hid (Nat.le_trans HX4.out.size (hm_ 4 _ _ _ _ rfl).1)
  have HB3_5:Hid (Blk w5 (g4 5) #[.int .i64 y.w,.int .i64 y.x,.int .i64 y.y,.int .i64 y.z] 22):=Lib.hid (hm_ 5 _ _ _ _ rfl).2;have HGEB3:Hid (w.heap.size ≤ g4 5):=Lib.hid (Nat.le_trans HX4.out.size (hm_ 5 _ _ _ _ rfl).1)
  have HNEB0B2:Hid (w.heap.size ≠ g4 4):=Lib.hid (Nat.ne_of_lt (Nat.lt_of_lt_of_le HB0_4.out.lt (hm_ 4 _ _ _ _ rfl).1))
  have HNEB0B3:Hid (w.heap.size ≠ g4 5):=Lib.hid (Nat.ne_of_lt (Nat.lt_of_lt_of_le HB0_4.out.lt (hm_ 5 _ _ _ _ rfl).1))
  have HNEB1B2:Hid (w.heap.size + 1 ≠ g4 4):=Lib.hid (Nat.ne_of_lt (Nat.lt_of_lt_of_le HB1_4.out.lt (hm_ 4 _ _ _ _ rfl).1))
  have HNEB1B3:Hid (w.heap.size + 1 ≠ g4 5):=Lib.hid (Nat.ne_of_lt (Nat.lt_of_lt_of_le HB1_4.out.lt (hm_ 5 _ _ _ _ rfl).1))
  have HNEB2B3:Hid (g4 4 ≠ g4 5):=Lib.hid (hne_ 4 5 (by decide) ⟨_,_,_,_,rfl⟩ ⟨_,_,_,_,rfl⟩)
  clear hx_ hm_ hne_
  generalize g4 4 = i2 at *
  generalize g4 5 = i3 at *
  clear g4
  go_wp2_with fail
  refine wp_loop_rounds 5 ?_
  rw [rounds_succ]
  go_wp2_with fail
  refine wp_name (fun W => Ext w W∧Blk W (w.heap.size) #[.int .i64 a.w,.int .i64 a.x,.int .i64 a.y,.int .i64 a.z] 22∧Blk W (w.heap.size + 1) #[.int .i64 b.w,.int .i64 b.x,.int .i64 b.y,.int .i64 b.z] 22∧Blk W (i2) #[.int .i64 x.w,.int .i64 x.x,.int .i64 x.y,.int .i64 x.z] 22∧Blk W (i3) #[.int .i64 y.w,.int .i64 y.x,.int .i64 y.y,.int .i64 y.z] 22) ⟨HX5.out,HB0_5.out,HB1_5.out,HB2_5.out,HB3_5.out⟩ ?_
  rintro w6 ⟨e6,bB0_6,bB1_6,bB2_6,bB3_6⟩
  have HX6:=Lib.hid e6;have HB0_6:=Lib.hid bB0_6;have HB1_6:=Lib.hid bB1_6;have HB2_6:=Lib.hid bB2_6;have HB3_6:=Lib.hid bB3_6
  clear e6 bB0_6 bB1_6 bB2_6 bB3_6
  refine region_lin [.val (.int .i64 0),.val (.pointer (some ⟨i2,0,none⟩)),.val (.int .i64 x.w),.val (.int .i64 0),.val (.pointer (some ⟨i2,0,none⟩)),.val (.int .i64 x.w),.val (.int .i64 (-x.w)),.val (.int .i64 0),.val (.pointer (some ⟨i3,0,none⟩)),.val (.int .i64 y.w),.val (.int .i64 0),.val (.pointer (some ⟨i3,0,none⟩)),.val (.int .i64 y.w),.val (.int .i64 (-y.w)),.val (.int .i64 (max x.w (max (-x.w) (max y.w (-y.w))))),.val (.bool false)] (by kernel_rfl) (by kernel_rfl) (by kernel_rfl) ?_ (fun g6 w7 hx_ hm_ hne_ => ?_)
  · skip
    refine RnL.cons (fun g6 A_ W_ hs_ => ?_) ?_
    · have q7_:=(hs_.old 7 (by kernel_rfl):A_.tmps[7]?.getD undef = .int .i64 0)
      refine Rn.val fun K_ hK_ => ?_
      go_simp
      exact hK_.out _ (Ext.refl _)
    refine RnL.cons (fun g6 A_ W_ hs_ => ?_) ?_
    · have q5_:=(hs_.old 5 (by kernel_rfl):A_.tmps[5]?.getD undef = .pointer (some ⟨i2,0,none⟩))
      have q33_:=hs_.val 0 rfl rfl rfl
      refine Rn.val fun K_ hK_ => ?_
      go_simp
      exact hK_.out _ (Ext.refl _)
    refine RnL.cons (fun g6 A_ W_ hs_ => ?_) ?_
    · have q34_:=hs_.val 1 rfl rfl rfl
      have cB2_0:=((HB2_6.out.drew.ext hs_.1)).cell 0 rfl
      refine Rn.val fun K_ hK_ => ?_
      go_simp
      exact hK_.out _ (Ext.refl _)
    refine RnL.cons (fun g6 A_ W_ hs_ => ?_) ?_
    · have q7_:=(hs_.old 7 (by kernel_rfl):A_.tmps[7]?.getD undef = .int .i64 0)
      refine Rn.val fun K_ hK_ => ?_
      go_simp
      exact hK_.out _ (Ext.refl _)
    refine RnL.cons (fun g6 A_ W_ hs_ => ?_) ?_
    · have q5_:=(hs_.old 5 (by kernel_rfl):A_.tmps[5]?.getD undef = .pointer (some ⟨i2,0,none⟩))
      have q36_:=hs_.val 3 rfl rfl rfl
      refine Rn.val fun K_ hK_ => ?_
      go_simp
      exact hK_.out _ (Ext.refl _)
    refine RnL.cons (fun g6 A_ W_ hs_ => ?_) ?_
    · have q37_:=hs_.val 4 rfl rfl rfl
      have cB2_0:=((HB2_6.out.drew.ext hs_.1)).cell 0 rfl
      refine Rn.val fun K_ hK_ => ?_
      go_simp
      exact hK_.out _ (Ext.refl _)
    refine RnL.cons (fun g6 A_ W_ hs_ => ?_) ?_
    · have q38_:=hs_.val 5 rfl rfl rfl
      refine Rn.val fun K_ hK_ => ?_
      go_simp
      try go_bits
      exact hK_.out _ (Ext.refl _)
    refine RnL.cons (fun g6 A_ W_ hs_ => ?_) ?_
    · have q7_:=(hs_.old 7 (by kernel_rfl):A_.tmps[7]?.getD undef = .int .i64 0)
      refine Rn.val fun K_ hK_ => ?_
      go_simp
      exact hK_.out _ (Ext.refl _)
    refine RnL.cons (fun g6 A_ W_ hs_ => ?_) ?_
    · have q6_:=(hs_.old 6 (by kernel_rfl):A_.tmps[6]?.getD undef = .pointer (some ⟨i3,0,none⟩))
      have q40_:=hs_.val 7 rfl rfl rfl
      refine Rn.val fun K_ hK_ => ?_
      go_simp
      exact hK_.out _ (Ext.refl _)
    refine RnL.cons (fun g6 A_ W_ hs_ => ?_) ?_
    · have q41_:=hs_.val 8 rfl rfl rfl
      have cB3_0:=((HB3_6.out.drew.ext hs_.1)).cell 0 rfl
      refine Rn.val fun K_ hK_ => ?_
      go_simp
      exact hK_.out _ (Ext.refl _)
    refine RnL.cons (fun g6 A_ W_ hs_ => ?_) ?_
    · have q7_:=(hs_.old 7 (by kernel_rfl):A_.tmps[7]?.getD undef = .int .i64 0)
      refine Rn.val fun K_ hK_ => ?_
      go_simp
      exact hK_.out _ (Ext.refl _)
    refine RnL.cons (fun g6 A_ W_ hs_ => ?_) ?_
    · have q6_:=(hs_.old 6 (by kernel_rfl):A_.tmps[6]?.getD undef = .pointer (some ⟨i3,0,none⟩))
      have q43_:=hs_.val 10 rfl rfl rfl
      refine Rn.val fun K_ hK_ => ?_
      go_simp
      exact hK_.out _ (Ext.refl _)
    refine RnL.cons (fun g6 A_ W_ hs_ => ?_) ?_
    · have q44_:=hs_.val 11 rfl rfl rfl
      have cB3_0:=((HB3_6.out.drew.ext hs_.1)).cell 0 rfl
      refine Rn.val fun K_ hK_ => ?_
      go_simp
      exact hK_.out _ (Ext.refl _)
    refine RnL.cons (fun g6 A_ W_ hs_ => ?_) ?_
    · have q45_:=hs_.val 12 rfl rfl rfl
      refine Rn.val fun K_ hK_ => ?_
      go_simp
      try go_bits
      exact hK_.out _ (Ext.refl _)
    refine RnL.cons (fun g6 A_ W_ hs_ => ?_) ?_
    · have q35_:=hs_.val 2 rfl rfl rfl
      have q39_:=hs_.val 6 rfl rfl rfl
      have q42_:=hs_.val 9 rfl rfl rfl
      have q46_:=hs_.val 13 rfl rfl rfl
      refine Rn.val fun K_ hK_ => ?_
      go_simp
      exact hK_.out _ (Ext.refl _)
    refine RnL.cons (fun g6 A_ W_ hs_ => ?_) ?_
    · have q47_:=hs_.val 14 rfl rfl rfl
      refine Rn.val fun K_ hK_ => ?_
      go_simp
      exact hK_.out _ (Ext.refl _)
    exact RnL.nil
  simp only [fs,Kd.value,puts,Act.put,List.setIfInBounds_toArray,List.set_cons_zero,List.set_cons_succ]
  have HX7:Hid (Ext w w7):=Lib.hid (HX6.out.drew.trans hx_)
  have HB0_7:=Lib.hid (HB0_6.out.drew.ext hx_)
  have HB1_7:=Lib.hid (HB1_6.out.drew.ext hx_)
  have HB2_7:=Lib.hid (HB2_6.out.drew.ext hx_)
  have HB3_7:=Lib.hid (HB3_6.out.drew.ext hx_)
  clear hx_ hm_ hne_
  go_wp2_with fail
  rw [rounds_succ]
  go_wp2_with fail
  refine wp_name (fun W => Ext w W∧Blk W (w.heap.size) #[.int .i64 a.w,.int .i64 a.x,.int .i64 a.y,.int .i64 a.z] 22∧Blk W (w.heap.size + 1) #[.int .i64 b.w,.int .i64 b.x,.int .i64 b.y,.int .i64 b.z] 22∧Blk W (i2) #[.int .i64 x.w,.int .i64 x.x,.int .i64 x.y,.int .i64 x.z] 22∧Blk W (i3) #[.int .i64 y.w,.int .i64 y.x,.int .i64 y.y,.int .i64 y.z] 22) ⟨HX7.out,HB0_7.out,HB1_7.out,HB2_7.out,HB3_7.out⟩ ?_
  rintro w8 ⟨e8,bB0_8,bB1_8,bB2_8,bB3_8⟩
  have HX8:=Lib.hid e8;have HB0_8:=Lib.hid bB0_8;have HB1_8:=Lib.hid bB1_8;have HB2_8:=Lib.hid bB2_8;have HB3_8:=Lib.hid bB3_8
  clear e8 bB0_8 bB1_8 bB2_8 bB3_8
  refine region_lin [.val (.int .i64 1),.val (.pointer (some ⟨i2,1,none⟩)),.val (.int .i64 x.x),.val (.int .i64 1),.val (.pointer (some ⟨i2,1,none⟩)),.val (.int .i64 x.x),.val (.int .i64 (-x.x)),.val (.int .i64 1),.val (.pointer (some ⟨i3,1,none⟩)),.val (.int .i64 y.x),.val (.int .i64 1),.val (.pointer (some ⟨i3,1,none⟩)),.val (.int .i64 y.x),.val (.int .i64 (-y.x)),.val (.int .i64 (max x.x (max (-x.x) (max y.x (-y.x))))),.val (.bool false)] (by kernel_rfl) (by kernel_rfl) (by kernel_rfl) ?_ (fun g8 w9 hx_ hm_ hne_ => ?_)
  · skip
    refine RnL.cons (fun g8 A_ W_ hs_ => ?_) ?_
    · have q7_:=(hs_.old 7 (by kernel_rfl):A_.tmps[7]?.getD undef = .int .i64 1)
      refine Rn.val fun K_ hK_ => ?_
      go_simp
      exact hK_.out _ (Ext.refl _)
    refine RnL.cons (fun g8 A_ W_ hs_ => ?_) ?_
    · have q5_:=(hs_.old 5 (by kernel_rfl):A_.tmps[5]?.getD undef = .pointer (some ⟨i2,0,none⟩))
      have q33_:=hs_.val 0 rfl rfl rfl
      refine Rn.val fun K_ hK_ => ?_
      go_simp
      exact hK_.out _ (Ext.refl _)
    refine RnL.cons (fun g8 A_ W_ hs_ => ?_) ?_
    · have q34_:=hs_.val 1 rfl rfl rfl
      have cB2_1:=((HB2_8.out.drew.ext hs_.1)).cell 1 rfl
      refine Rn.val fun K_ hK_ => ?_
      go_simp
      exact hK_.out _ (Ext.refl _)
    refine RnL.cons (fun g8 A_ W_ hs_ => ?_) ?_
    · have q7_:=(hs_.old 7 (by kernel_rfl):A_.tmps[7]?.getD undef = .int .i64 1)
      refine Rn.val fun K_ hK_ => ?_
      go_simp
      exact hK_.out _ (Ext.refl _)
    refine RnL.cons (fun g8 A_ W_ hs_ => ?_) ?_
    · have q5_:=(hs_.old 5 (by kernel_rfl):A_.tmps[5]?.getD undef = .pointer (some ⟨i2,0,none⟩))
      have q36_:=hs_.val 3 rfl rfl rfl
      refine Rn.val fun K_ hK_ => ?_
      go_simp
      exact hK_.out _ (Ext.refl _)
    refine RnL.cons (fun g8 A_ W_ hs_ => ?_) ?_
    · have q37_:=hs_.val 4 rfl rfl rfl
      have cB2_1:=((HB2_8.out.drew.ext hs_.1)).cell 1 rfl
      refine Rn.val fun K_ hK_ => ?_
      go_simp
      exact hK_.out _ (Ext.refl _)
    refine RnL.cons (fun g8 A_ W_ hs_ => ?_) ?_
    · have q38_:=hs_.val 5 rfl rfl rfl
      refine Rn.val fun K_ hK_ => ?_
      go_simp
      try go_bits
      exact hK_.out _ (Ext.refl _)
    refine RnL.cons (fun g8 A_ W_ hs_ => ?_) ?_
    · have q7_:=(hs_.old 7 (by kernel_rfl):A_.tmps[7]?.getD undef = .int .i64 1)
      refine Rn.val fun K_ hK_ => ?_
      go_simp
      exact hK_.out _ (Ext.refl _)
    refine RnL.cons (fun g8 A_ W_ hs_ => ?_) ?_
    · have q6_:=(hs_.old 6 (by kernel_rfl):A_.tmps[6]?.getD undef = .pointer (some ⟨i3,0,none⟩))
      have q40_:=hs_.val 7 rfl rfl rfl
      refine Rn.val fun K_ hK_ => ?_
      go_simp
      exact hK_.out _ (Ext.refl _)
    refine RnL.cons (fun g8 A_ W_ hs_ => ?_) ?_
    · have q41_:=hs_.val 8 rfl rfl rfl
      have cB3_1:=((HB3_8.out.drew.ext hs_.1)).cell 1 rfl
      refine Rn.val fun K_ hK_ => ?_
      go_simp
      exact hK_.out _ (Ext.refl _)
    refine RnL.cons (fun g8 A_ W_ hs_ => ?_) ?_
    · have q7_:=(hs_.old 7 (by kernel_rfl):A_.tmps[7]?.getD undef = .int .i64 1)
      refine Rn.val fun K_ hK_ => ?_
      go_simp
      exact hK_.out _ (Ext.refl _)
    refine RnL.cons (fun g8 A_ W_ hs_ => ?_) ?_
    · have q6_:=(hs_.old 6 (by kernel_rfl):A_.tmps[6]?.getD undef = .pointer (some ⟨i3,0,none⟩))
      have q43_:=hs_.val 10 rfl rfl rfl
      refine Rn.val fun K_ hK_ => ?_
      go_simp
      exact hK_.out _ (Ext.refl _)
    refine RnL.cons (fun g8 A_ W_ hs_ => ?_) ?_
    · have q44_:=hs_.val 11 rfl rfl rfl
      have cB3_1:=((HB3_8.out.drew.ext hs_.1)).cell 1 rfl
      refine Rn.val fun K_ hK_ => ?_
      go_simp
      exact hK_.out _ (Ext.refl _)
    refine RnL.cons (fun g8 A_ W_ hs_ => ?_) ?_
    · have q45_:=hs_.val 12 rfl rfl rfl
      refine Rn.val fun K_ hK_ => ?_
      go_simp
      try go_bits
      exact hK_.out _ (Ext.refl _)
    refine RnL.cons (fun g8 A_ W_ hs_ => ?_) ?_
    · have q35_:=hs_.val 2 rfl rfl rfl
      have q39_:=hs_.val 6 rfl rfl rfl
      have q42_:=hs_.val 9 rfl rfl rfl
      have q46_:=hs_.val 13 rfl rfl rfl
      refine Rn.val fun K_ hK_ => ?_
      go_simp
      exact hK_.out _ (Ext.refl _)
    refine RnL.cons (fun g8 A_ W_ hs_ => ?_) ?_
    · have q47_:=hs_.val 14 rfl rfl rfl
      refine Rn.val fun K_ hK_ => ?_
      go_simp
      exact hK_.out _ (Ext.refl _)
    exact RnL.nil
  simp only [fs,Kd.value,puts,Act.put,List.setIfInBounds_toArray,List.set_cons_zero,List.set_cons_succ]
  have HX9:Hid (Ext w w9):=Lib.hid (HX8.out.drew.trans hx_)
  have HB0_9:=Lib.hid (HB0_8.out.drew.ext hx_)
  have HB1_9:=Lib.hid (HB1_8.out.drew.ext hx_)
  have HB2_9:=Lib.hid (HB2_8.out.drew.ext hx_)
  have HB3_9:=Lib.hid (HB3_8.out.drew.ext hx_)
  clear hx_ hm_ hne_
  go_wp2_with fail
  rw [rounds_succ]
  go_wp2_with fail
  refine wp_name (fun W => Ext w W∧Blk W (w.heap.size) #[.int .i64 a.w,.int .i64 a.x,.int .i64 a.y,.int .i64 a.z] 22∧Blk W (w.heap.size + 1) #[.int .i64 b.w,.int .i64 b.x,.int .i64 b.y,.int .i64 b.z] 22∧Blk W (i2) #[.int .i64 x.w,.int .i64 x.x,.int .i64 x.y,.int .i64 x.z] 22∧Blk W (i3) #[.int .i64 y.w,.int .i64 y.x,.int .i64 y.y,.int .i64 y.z] 22) ⟨HX9.out,HB0_9.out,HB1_9.out,HB2_9.out,HB3_9.out⟩ ?_
  rintro w10 ⟨e10,bB0_10,bB1_10,bB2_10,bB3_10⟩
  have HX10:=Lib.hid e10;have HB0_10:=Lib.hid bB0_10;have HB1_10:=Lib.hid bB1_10;have HB2_10:=Lib.hid bB2_10;have HB3_10:=Lib.hid bB3_10
  clear e10 bB0_10 bB1_10 bB2_10 bB3_10
  refine region_lin [.val (.int .i64 2),.val (.pointer (some ⟨i2,2,none⟩)),.val (.int .i64 x.y),.val (.int .i64 2),.val (.pointer (some ⟨i2,2,none⟩)),.val (.int .i64 x.y),.val (.int .i64 (-x.y)),.val (.int .i64 2),.val (.pointer (some ⟨i3,2,none⟩)),.val (.int .i64 y.y),.val (.int .i64 2),.val (.pointer (some ⟨i3,2,none⟩)),.val (.int .i64 y.y),.val (.int .i64 (-y.y)),.val (.int .i64 (max x.y (max (-x.y) (max y.y (-y.y))))),.val (.bool false)] (by kernel_rfl) (by kernel_rfl) (by kernel_rfl) ?_ (fun g10 w11 hx_ hm_ hne_ => ?_)
  · skip
    refine RnL.cons (fun g10 A_ W_ hs_ => ?_) ?_
    · have q7_:=(hs_.old 7 (by kernel_rfl):A_.tmps[7]?.getD undef = .int .i64 2)
      refine Rn.val fun K_ hK_ => ?_
      go_simp
      exact hK_.out _ (Ext.refl _)
    refine RnL.cons (fun g10 A_ W_ hs_ => ?_) ?_
    · have q5_:=(hs_.old 5 (by kernel_rfl):A_.tmps[5]?.getD undef = .pointer (some ⟨i2,0,none⟩))
      have q33_:=hs_.val 0 rfl rfl rfl
      refine Rn.val fun K_ hK_ => ?_
      go_simp
      exact hK_.out _ (Ext.refl _)
    refine RnL.cons (fun g10 A_ W_ hs_ => ?_) ?_
    · have q34_:=hs_.val 1 rfl rfl rfl
      have cB2_2:=((HB2_10.out.drew.ext hs_.1)).cell 2 rfl
      refine Rn.val fun K_ hK_ => ?_
      go_simp
      exact hK_.out _ (Ext.refl _)
    refine RnL.cons (fun g10 A_ W_ hs_ => ?_) ?_
    · have q7_:=(hs_.old 7 (by kernel_rfl):A_.tmps[7]?.getD undef = .int .i64 2)
      refine Rn.val fun K_ hK_ => ?_
      go_simp
      exact hK_.out _ (Ext.refl _)
    refine RnL.cons (fun g10 A_ W_ hs_ => ?_) ?_
    · have q5_:=(hs_.old 5 (by kernel_rfl):A_.tmps[5]?.getD undef = .pointer (some ⟨i2,0,none⟩))
      have q36_:=hs_.val 3 rfl rfl rfl
      refine Rn.val fun K_ hK_ => ?_
      go_simp
      exact hK_.out _ (Ext.refl _)
    refine RnL.cons (fun g10 A_ W_ hs_ => ?_) ?_
    · have q37_:=hs_.val 4 rfl rfl rfl
      have cB2_2:=((HB2_10.out.drew.ext hs_.1)).cell 2 rfl
      refine Rn.val fun K_ hK_ => ?_
      go_simp
      exact hK_.out _ (Ext.refl _)
    refine RnL.cons (fun g10 A_ W_ hs_ => ?_) ?_
    · have q38_:=hs_.val 5 rfl rfl rfl
      refine Rn.val fun K_ hK_ => ?_
      go_simp
      try go_bits
      exact hK_.out _ (Ext.refl _)
    refine RnL.cons (fun g10 A_ W_ hs_ => ?_) ?_
    · have q7_:=(hs_.old 7 (by kernel_rfl):A_.tmps[7]?.getD undef = .int .i64 2)
      refine Rn.val fun K_ hK_ => ?_
      go_simp
      exact hK_.out _ (Ext.refl _)
    refine RnL.cons (fun g10 A_ W_ hs_ => ?_) ?_
    · have q6_:=(hs_.old 6 (by kernel_rfl):A_.tmps[6]?.getD undef = .pointer (some ⟨i3,0,none⟩))
      have q40_:=hs_.val 7 rfl rfl rfl
      refine Rn.val fun K_ hK_ => ?_
      go_simp
      exact hK_.out _ (Ext.refl _)
    refine RnL.cons (fun g10 A_ W_ hs_ => ?_) ?_
    · have q41_:=hs_.val 8 rfl rfl rfl
      have cB3_2:=((HB3_10.out.drew.ext hs_.1)).cell 2 rfl
      refine Rn.val fun K_ hK_ => ?_
      go_simp
      exact hK_.out _ (Ext.refl _)
    refine RnL.cons (fun g10 A_ W_ hs_ => ?_) ?_
    · have q7_:=(hs_.old 7 (by kernel_rfl):A_.tmps[7]?.getD undef = .int .i64 2)
      refine Rn.val fun K_ hK_ => ?_
      go_simp
      exact hK_.out _ (Ext.refl _)
    refine RnL.cons (fun g10 A_ W_ hs_ => ?_) ?_
    · have q6_:=(hs_.old 6 (by kernel_rfl):A_.tmps[6]?.getD undef = .pointer (some ⟨i3,0,none⟩))
      have q43_:=hs_.val 10 rfl rfl rfl
      refine Rn.val fun K_ hK_ => ?_
      go_simp
      exact hK_.out _ (Ext.refl _)
    refine RnL.cons (fun g10 A_ W_ hs_ => ?_) ?_
    · have q44_:=hs_.val 11 rfl rfl rfl
      have cB3_2:=((HB3_10.out.drew.ext hs_.1)).cell 2 rfl
      refine Rn.val fun K_ hK_ => ?_
      go_simp
      exact hK_.out _ (Ext.refl _)
    refine RnL.cons (fun g10 A_ W_ hs_ => ?_) ?_
    · have q45_:=hs_.val 12 rfl rfl rfl
      refine Rn.val fun K_ hK_ => ?_
      go_simp
      try go_bits
      exact hK_.out _ (Ext.refl _)
    refine RnL.cons (fun g10 A_ W_ hs_ => ?_) ?_
    · have q35_:=hs_.val 2 rfl rfl rfl
      have q39_:=hs_.val 6 rfl rfl rfl
      have q42_:=hs_.val 9 rfl rfl rfl
      have q46_:=hs_.val 13 rfl rfl rfl
      refine Rn.val fun K_ hK_ => ?_
      go_simp
      exact hK_.out _ (Ext.refl _)
    refine RnL.cons (fun g10 A_ W_ hs_ => ?_) ?_
    · have q47_:=hs_.val 14 rfl rfl rfl
      refine Rn.val fun K_ hK_ => ?_
      go_simp
      exact hK_.out _ (Ext.refl _)
    exact RnL.nil
  simp only [fs,Kd.value,puts,Act.put,List.setIfInBounds_toArray,List.set_cons_zero,List.set_cons_succ]
  have HX11:Hid (Ext w w11):=Lib.hid (HX10.out.drew.trans hx_)
  have HB0_11:=Lib.hid (HB0_10.out.drew.ext hx_)
  have HB1_11:=Lib.hid (HB1_10.out.drew.ext hx_)
  have HB2_11:=Lib.hid (HB2_10.out.drew.ext hx_)
  have HB3_11:=Lib.hid (HB3_10.out.drew.ext hx_)
  clear hx_ hm_ hne_
  go_wp2_with fail
  rw [rounds_succ]
  go_wp2_with fail
  refine wp_name (fun W => Ext w W∧Blk W (w.heap.size) #[.int .i64 a.w,.int .i64 a.x,.int .i64 a.y,.int .i64 a.z] 22∧Blk W (w.heap.size + 1) #[.int .i64 b.w,.int .i64 b.x,.int .i64 b.y,.int .i64 b.z] 22∧Blk W (i2) #[.int .i64 x.w,.int .i64 x.x,.int .i64 x.y,.int .i64 x.z] 22∧Blk W (i3) #[.int .i64 y.w,.int .i64 y.x,.int .i64 y.y,.int .i64 y.z] 22) ⟨HX11.out,HB0_11.out,HB1_11.out,HB2_11.out,HB3_11.out⟩ ?_
  rintro w12 ⟨e12,bB0_12,bB1_12,bB2_12,bB3_12⟩
  have HX12:=Lib.hid e12;have HB0_12:=Lib.hid bB0_12;have HB1_12:=Lib.hid bB1_12;have HB2_12:=Lib.hid bB2_12;have HB3_12:=Lib.hid bB3_12
  clear e12 bB0_12 bB1_12 bB2_12 bB3_12
  refine region_lin [.val (.int .i64 3),.val (.pointer (some ⟨i2,3,none⟩)),.val (.int .i64 x.z),.val (.int .i64 3),.val (.pointer (some ⟨i2,3,none⟩)),.val (.int .i64 x.z),.val (.int .i64 (-x.z)),.val (.int .i64 3),.val (.pointer (some ⟨i3,3,none⟩)),.val (.int .i64 y.z),.val (.int .i64 3),.val (.pointer (some ⟨i3,3,none⟩)),.val (.int .i64 y.z),.val (.int .i64 (-y.z)),.val (.int .i64 (max x.z (max (-x.z) (max y.z (-y.z))))),.val (.bool false)] (by kernel_rfl) (by kernel_rfl) (by kernel_rfl) ?_ (fun g12 w13 hx_ hm_ hne_ => ?_)
  · skip
    refine RnL.cons (fun g12 A_ W_ hs_ => ?_) ?_
    · have q7_:=(hs_.old 7 (by kernel_rfl):A_.tmps[7]?.getD undef = .int .i64 3)
      refine Rn.val fun K_ hK_ => ?_
      go_simp
      exact hK_.out _ (Ext.refl _)
    refine RnL.cons (fun g12 A_ W_ hs_ => ?_) ?_
    · have q5_:=(hs_.old 5 (by kernel_rfl):A_.tmps[5]?.getD undef = .pointer (some ⟨i2,0,none⟩))
      have q33_:=hs_.val 0 rfl rfl rfl
      refine Rn.val fun K_ hK_ => ?_
      go_simp
      exact hK_.out _ (Ext.refl _)
    refine RnL.cons (fun g12 A_ W_ hs_ => ?_) ?_
    · have q34_:=hs_.val 1 rfl rfl rfl
      have cB2_3:=((HB2_12.out.drew.ext hs_.1)).cell 3 rfl
      refine Rn.val fun K_ hK_ => ?_
      go_simp
      exact hK_.out _ (Ext.refl _)
    refine RnL.cons (fun g12 A_ W_ hs_ => ?_) ?_
    · have q7_:=(hs_.old 7 (by kernel_rfl):A_.tmps[7]?.getD undef = .int .i64 3)
      refine Rn.val fun K_ hK_ => ?_
      go_simp
      exact hK_.out _ (Ext.refl _)
    refine RnL.cons (fun g12 A_ W_ hs_ => ?_) ?_
    · have q5_:=(hs_.old 5 (by kernel_rfl):A_.tmps[5]?.getD undef = .pointer (some ⟨i2,0,none⟩))
      have q36_:=hs_.val 3 rfl rfl rfl
      refine Rn.val fun K_ hK_ => ?_
      go_simp
      exact hK_.out _ (Ext.refl _)
    refine RnL.cons (fun g12 A_ W_ hs_ => ?_) ?_
    · have q37_:=hs_.val 4 rfl rfl rfl
      have cB2_3:=((HB2_12.out.drew.ext hs_.1)).cell 3 rfl
      refine Rn.val fun K_ hK_ => ?_
      go_simp
      exact hK_.out _ (Ext.refl _)
    refine RnL.cons (fun g12 A_ W_ hs_ => ?_) ?_
    · have q38_:=hs_.val 5 rfl rfl rfl
      refine Rn.val fun K_ hK_ => ?_
      go_simp
      try go_bits
      exact hK_.out _ (Ext.refl _)
    refine RnL.cons (fun g12 A_ W_ hs_ => ?_) ?_
    · have q7_:=(hs_.old 7 (by kernel_rfl):A_.tmps[7]?.getD undef = .int .i64 3)
      refine Rn.val fun K_ hK_ => ?_
      go_simp
      exact hK_.out _ (Ext.refl _)
    refine RnL.cons (fun g12 A_ W_ hs_ => ?_) ?_
    · have q6_:=(hs_.old 6 (by kernel_rfl):A_.tmps[6]?.getD undef = .pointer (some ⟨i3,0,none⟩))
      have q40_:=hs_.val 7 rfl rfl rfl
      refine Rn.val fun K_ hK_ => ?_
      go_simp
      exact hK_.out _ (Ext.refl _)
    refine RnL.cons (fun g12 A_ W_ hs_ => ?_) ?_
    · have q41_:=hs_.val 8 rfl rfl rfl
      have cB3_3:=((HB3_12.out.drew.ext hs_.1)).cell 3 rfl
      refine Rn.val fun K_ hK_ => ?_
      go_simp
      exact hK_.out _ (Ext.refl _)
    refine RnL.cons (fun g12 A_ W_ hs_ => ?_) ?_
    · have q7_:=(hs_.old 7 (by kernel_rfl):A_.tmps[7]?.getD undef = .int .i64 3)
      refine Rn.val fun K_ hK_ => ?_
      go_simp
      exact hK_.out _ (Ext.refl _)
    refine RnL.cons (fun g12 A_ W_ hs_ => ?_) ?_
    · have q6_:=(hs_.old 6 (by kernel_rfl):A_.tmps[6]?.getD undef = .pointer (some ⟨i3,0,none⟩))
      have q43_:=hs_.val 10 rfl rfl rfl
      refine Rn.val fun K_ hK_ => ?_
      go_simp
      exact hK_.out _ (Ext.refl _)
    refine RnL.cons (fun g12 A_ W_ hs_ => ?_) ?_
    · have q44_:=hs_.val 11 rfl rfl rfl
      have cB3_3:=((HB3_12.out.drew.ext hs_.1)).cell 3 rfl
      refine Rn.val fun K_ hK_ => ?_
      go_simp
      exact hK_.out _ (Ext.refl _)
    refine RnL.cons (fun g12 A_ W_ hs_ => ?_) ?_
    · have q45_:=hs_.val 12 rfl rfl rfl
      refine Rn.val fun K_ hK_ => ?_
      go_simp
      try go_bits
      exact hK_.out _ (Ext.refl _)
    refine RnL.cons (fun g12 A_ W_ hs_ => ?_) ?_
    · have q35_:=hs_.val 2 rfl rfl rfl
      have q39_:=hs_.val 6 rfl rfl rfl
      have q42_:=hs_.val 9 rfl rfl rfl
      have q46_:=hs_.val 13 rfl rfl rfl
      refine Rn.val fun K_ hK_ => ?_
      go_simp
      exact hK_.out _ (Ext.refl _)
    refine RnL.cons (fun g12 A_ W_ hs_ => ?_) ?_
    · have q47_:=hs_.val 14 rfl rfl rfl
      refine Rn.val fun K_ hK_ => ?_
      go_simp
      exact hK_.out _ (Ext.refl _)
    exact RnL.nil
  simp only [fs,Kd.value,puts,Act.put,List.setIfInBounds_toArray,List.set_cons_zero,List.set_cons_succ]
  have HX13:Hid (Ext w w13):=Lib.hid (HX12.out.drew.trans hx_)
  have HB0_13:=Lib.hid (HB0_12.out.drew.ext hx_)
  have HB1_13:=Lib.hid (HB1_12.out.drew.ext hx_)
  have HB2_13:=Lib.hid (HB2_12.out.drew.ext hx_)
  have HB3_13:=Lib.hid (HB3_12.out.drew.ext hx_)
  clear hx_ hm_ hne_
  go_wp2_with fail
  rw [rounds_succ]
  have c0_0:=HB0_13.out.cell 0 rfl
  have c0_1:=HB0_13.out.cell 1 rfl
  have c0_2:=HB0_13.out.cell 2 rfl
  have c0_3:=HB0_13.out.cell 3 rfl
  have c1_0:=HB1_13.out.cell 0 rfl
  have c1_1:=HB1_13.out.cell 1 rfl
  have c1_2:=HB1_13.out.cell 2 rfl
  have c1_3:=HB1_13.out.cell 3 rfl
  go_wp2_with fail
  refine (rcomp_l a b p e _ (HG.out.ext HX13.out) HEA.out HEB.out HIA.out HIB.out HZA.out HZB.out HEC.out HE.out HNE.out).mono ?_;rintro e w14 ⟨rfl,e14⟩
  have HX14:Hid (Ext w w14):=Lib.hid (HX13.out.trans e14)
  have HB2_14:=Lib.hid (Blk.ext HB2_13.out e14)
  have HB3_14:=Lib.hid (Blk.ext HB3_13.out e14)
  clear e14 c0_0 c0_1 c0_2 c0_3 c1_0 c1_1 c1_2 c1_3
  go_upto_region 10 with fail
  refine wp_name (fun W => Ext w W∧Blk W (i2) #[.int .i64 x.w,.int .i64 x.x,.int .i64 x.y,.int .i64 x.z] 22∧Blk W (i3) #[.int .i64 y.w,.int .i64 y.x,.int .i64 y.y,.int .i64 y.z] 22∧Blk W (w14.heap.size) #[.int .i64 0,.int .i64 0,.int .i64 0,.int .i64 0] 22) ⟨(HX14.out.alloc _),(HB2_14.out.alloc _),(HB3_14.out.alloc _),(Blk.new' (w:=_) (cs:=#[.int .i64 0,.int .i64 0,.int .i64 0,.int .i64 0]) (t:=22) (by first | rfl | (simp only [World.size_alloc];done) | (simp only [World.size_alloc];omega) | simp))⟩ ?_
  rintro w15 ⟨e15,bB2_15,bB3_15,bB4_15⟩
  have HX15:=Lib.hid e15;have HB2_15:=Lib.hid bB2_15;have HB3_15:=Lib.hid bB3_15;have HB4_15:=Lib.hid bB4_15
  have HGEB4:Hid (w.heap.size ≤ w14.heap.size):=Lib.hid (by have:=HX14.out.size;first | omega | (simp only [];omega) | (simp;omega))
  clear e15 bB2_15 bB3_15 bB4_15
  have c2_0:=HB2_15.out.cell 0 rfl
  have c2_1:=HB2_15.out.cell 1 rfl
  have c2_2:=HB2_15.out.cell 2 rfl
  have c2_3:=HB2_15.out.cell 3 rfl
  have c3_0:=HB3_15.out.cell 0 rfl
  have c3_1:=HB3_15.out.cell 1 rfl
  have c3_2:=HB3_15.out.cell 2 rfl
  have c3_3:=HB3_15.out.cell 3 rfl
  go_wp2_with fail
  refine (lprod_as x y q HQ9.out _ (HG.out.ext HX15.out) HIX.out HIY.out).mono ?_;rintro e w16 ⟨rfl,e16⟩
  have HX16:Hid (Ext w w16):=Lib.hid (HX15.out.trans e16)
  have HB4_16:=Lib.hid (Blk.ext HB4_15.out e16)
  clear e16 c2_0 c2_1 c2_2 c2_3 c3_0 c3_1 c3_2 c3_3
  go_wp2_with fail
  refine (lprim_as q p HEP.out _ (HG.out.ext HX16.out) HQB.out HQZ.out).mono ?_;rintro e w17 ⟨rfl,e17⟩
  have HX17:Hid (Ext w w17):=Lib.hid (HX16.out.trans e17)
  have HB4_17:=Lib.hid (Blk.ext HB4_16.out e17)
  clear e17
  go_upto_region 11 with fail
  refine wp_name (fun W => Ext w W∧Blk W (w14.heap.size) #[.int .i64 0,.int .i64 0,.int .i64 0,.int .i64 0] 22∧Blk W (w17.heap.size) #[.int .i64 p.w,.int .i64 p.x,.int .i64 p.y,.int .i64 p.z] 22) ⟨(HX17.out.alloc _),(HB4_17.out.alloc _),(Blk.new' (w:=_) (cs:=#[.int .i64 p.w,.int .i64 p.x,.int .i64 p.y,.int .i64 p.z]) (t:=22) (by first | rfl | (simp only [World.size_alloc];done) | (simp only [World.size_alloc];omega) | simp))⟩ ?_
  rintro w18 ⟨e18,bB4_18,bB5_18⟩
  have HX18:=Lib.hid e18;have HB4_18:=Lib.hid bB4_18;have HB5_18:=Lib.hid bB5_18
  have HGEB5:Hid (w.heap.size ≤ w17.heap.size):=Lib.hid (by have:=HX17.out.size;first | omega | (simp only [];omega) | (simp;omega))
  clear e18 bB4_18 bB5_18
  have c5_0:=HB5_18.out.cell 0 rfl
  have c5_1:=HB5_18.out.cell 1 rfl
  have c5_2:=HB5_18.out.cell 2 rfl
  have c5_3:=HB5_18.out.cell 3 rfl
  go_wp2_with fail
  refine (lchk_l _ (HG.out.ext HX18.out) HE.out).mono ?_;rintro e w19 ⟨rfl,e19⟩
  have HX19:Hid (Ext w w19):=Lib.hid (HX18.out.trans e19)
  have HB4_19:=Lib.hid (Blk.ext HB4_18.out e19)
  clear e19 c5_0 c5_1 c5_2 c5_3
  have c4_0:=HB4_19.out.cell 0 rfl
  have c4_1:=HB4_19.out.cell 1 rfl
  have c4_2:=HB4_19.out.cell 2 rfl
  have c4_3:=HB4_19.out.cell 3 rfl
  go_wp2
  go_ret
  exact ⟨rfl,HX19.out⟩

theorem comp17_walk (a b:Q4) (w:World) (g:Gd w):Calls Tryz.prog 6 #[.agg #[.int .i64 a.w,.int .i64 a.x,.int .i64 a.y,.int .i64 a.z],.agg #[.int .i64 b.w,.int .i64 b.x,.int .i64 b.y,.int .i64 b.z]] w (Ret w (.bool true)):=by
  obtain ⟨ea,ha⟩:=qerr_ex a
  obtain ⟨eb,hb⟩:=qerr_ex b
  by_cases h0:ea = 0
  · subst h0
    by_cases h1:eb = 0
    · subst h1
      have A:=qerr_ok ha rfl;have B:=qerr_ok hb rfl
      obtain ⟨x,hx⟩:∃ x,prim4 a = x:=⟨_,rfl⟩
      obtain ⟨y,hy⟩:∃ y,prim4 b = y:=⟨_,rfl⟩
      by_cases m0:10000 < max x.w (max (-x.w) (max y.w (-y.w)))
      · exact comp17_k0 a b x y w g ha hb A.1 B.1 A.2 B.2 hx hy m0
      · by_cases m1:10000 < max x.x (max (-x.x) (max y.x (-y.x)))
        · exact comp17_k1 a b x y w g ha hb A.1 B.1 A.2 B.2 hx hy m0 m1
        · by_cases m2:10000 < max x.y (max (-x.y) (max y.y (-y.y)))
          · exact comp17_k2 a b x y w g ha hb A.1 B.1 A.2 B.2 hx hy m0 m1 m2
          · by_cases m3:10000 < max x.z (max (-x.z) (max y.z (-y.z)))
            · exact comp17_k3 a b x y w g ha hb A.1 B.1 A.2 B.2 hx hy m0 m1 m2 m3
            · obtain ⟨e,he⟩:=qerr_ex (prim4 (prod4 x y))
              by_cases h2:e = 0
              · subst h2
                exact comp17_ok a b x y _ w g ha hb A.1 B.1 A.2 B.2 hx hy m0 m1 m2 m3 rfl he
              · exact comp17_l a b x y _ e w g ha hb A.1 B.1 A.2 B.2 hx hy m0 m1 m2 m3 rfl he h2
    · exact comp17_b a b eb w g ha hb h1
  · exact comp17_a a b ea w g ha h0
end Go.Proofs.YtjeimihnoiephaaGreatDoor
