/- Part 40 of the proof: M8. -/
import Derived.Test.YtjeimihnoiephaaGreatDoorQX1
import Derived.Test.YtjeimihnoiephaaGreatDoorQX2
import Derived.Test.YtjeimihnoiephaaGreatDoorQX3
import Derived.Test.YtjeimihnoiephaaGreatDoorQX4
import Derived.Test.YtjeimihnoiephaaGreatDoorQX5
import Derived.Test.YtjeimihnoiephaaGreatDoorQX6
import Derived.Test.YtjeimihnoiephaaGreatDoorQX7
import Derived.Test.YtjeimihnoiephaaGreatDoorQX8
import Derived.Test.YtjeimihnoiephaaGreatDoorQX9
import Derived.Test.YtjeimihnoiephaaGreatDoorQX10
import Derived.Test.YtjeimihnoiephaaGreatDoorQX11
import Derived.Test.YtjeimihnoiephaaGreatDoorQX12
import Derived.Test.YtjeimihnoiephaaGreatDoorQX13
import Derived.Test.YtjeimihnoiephaaGreatDoorQX14
import Derived.Test.YtjeimihnoiephaaGreatDoorQX15
import Derived.Test.YtjeimihnoiephaaGreatDoorQX16
import Derived.Test.YtjeimihnoiephaaGreatDoorQX17
import Derived.Test.YtjeimihnoiephaaGreatDoorQX18
import Derived.Test.YtjeimihnoiephaaGreatDoorQX19
import Derived.Test.YtjeimihnoiephaaGreatDoorQX20
import Derived.Test.YtjeimihnoiephaaGreatDoorQX21
import Derived.Test.YtjeimihnoiephaaGreatDoorQX22
import Derived.Test.YtjeimihnoiephaaGreatDoorQX23
import Derived.Test.YtjeimihnoiephaaGreatDoorQX24
import Derived.Test.YtjeimihnoiephaaGreatDoorQX25
import Derived.Test.YtjeimihnoiephaaGreatDoorQX26
import Derived.Test.YtjeimihnoiephaaGreatDoorQX27
import Derived.Test.YtjeimihnoiephaaGreatDoorQX28
import Derived.Test.YtjeimihnoiephaaGreatDoorQX29
import Derived.Test.YtjeimihnoiephaaGreatDoorQX30
import Derived.Test.YtjeimihnoiephaaGreatDoorQX32
import Derived.Test.YtjeimihnoiephaaGreatDoorQX34
import Derived.Test.YtjeimihnoiephaaGreatDoorQX35
import Derived.Test.YtjeimihnoiephaaGreatDoorQX36
import Derived.Test.YtjeimihnoiephaaGreatDoorQX37
import Derived.Test.YtjeimihnoiephaaGreatDoorQX38
import Derived.Test.YtjeimihnoiephaaGreatDoorQX39
namespace Go.Proofs.YtjeimihnoiephaaGreatDoor
open Go Go.RowKit
set_option linter.unusedVariables false
theorem prod4_bd {a b:Q4} (hia:Q4In a) (hib:Q4In b):Q4Bd (prod4 a b):=by
  have pww:=mul_bd hia.w hib.w
  have pwx:=mul_bd hia.w hib.x
  have pwy:=mul_bd hia.w hib.y
  have pwz:=mul_bd hia.w hib.z
  have pxw:=mul_bd hia.x hib.w
  have pxx:=mul_bd hia.x hib.x
  have pxy:=mul_bd hia.x hib.y
  have pxz:=mul_bd hia.x hib.z
  have pyw:=mul_bd hia.y hib.w
  have pyx:=mul_bd hia.y hib.x
  have pyy:=mul_bd hia.y hib.y
  have pyz:=mul_bd hia.y hib.z
  have pzw:=mul_bd hia.z hib.w
  have pzx:=mul_bd hia.z hib.x
  have pzy:=mul_bd hia.z hib.y
  have pzz:=mul_bd hia.z hib.z
  unfold prod4
  exact ⟨by simp only;omega,by simp only;omega,by simp only;omega,by simp only;omega⟩

set_option maxRecDepth 100000 in
set_option maxHeartbeats 2000000 in
theorem rbnd_ok (t p:Q4) (w:World) (g:Gd w) (hb:Q4Bd t) (hz:¬ t.zero) (hp:prim4 t = p) (he:QErr p 0):Calls Tryz.prog 57 #[.agg #[.int .i64 t.w,.int .i64 t.x,.int .i64 t.y,.int .i64 t.z]] w (Ret w (.tuple #[.agg #[.int .i64 p.w,.int .i64 p.x,.int .i64 p.y,.int .i64 p.z],.int .i64 0])):=by
  have HB:=Lib.hid hb
  have HZ:=Lib.hid hz
  have HEP:=Lib.hid hp
  have HE:=Lib.hid he
  have HG:=Lib.hid g
  clear hb hz hp he g
  go_enter Tryz.func57,Tryz.ntmps57
  go_wp2_with fail
  refine (rprim_as t p HEP.out _ (HG.out.ext (((Ext.refl w).alloc _).alloc _)) HB.out HZ.out).mono ?_;rintro e w1 ⟨rfl,e1⟩
  have HX1:Hid (Ext w w1):=Lib.hid ((((Ext.refl w).alloc _).alloc _).trans e1)
  have HB0_1:Hid (Blk w1 (w.heap.size) #[.int .i64 t.w,.int .i64 t.x,.int .i64 t.y,.int .i64 t.z] 22):=Lib.hid (Blk.ext ((Blk.new' (w:=_) (cs:=#[.int .i64 t.w,.int .i64 t.x,.int .i64 t.y,.int .i64 t.z]) (t:=22) (by first | rfl | (simp only [World.size_alloc];done) | (simp only [World.size_alloc];omega) | simp)).alloc _) e1)
  have HB1_1:Hid (Blk w1 (w.heap.size + 1) #[.int .i64 0,.int .i64 0,.int .i64 0,.int .i64 0] 22):=Lib.hid (Blk.ext (Blk.new' (w:=_) (cs:=#[.int .i64 0,.int .i64 0,.int .i64 0,.int .i64 0]) (t:=22) (by first | rfl | (simp only [World.size_alloc];done) | (simp only [World.size_alloc];omega) | simp)) e1)
  have HGEB0:Hid (w.heap.size ≤ w.heap.size):=Lib.hid (by first | omega | (simp only [];omega) | (simp;omega))
  have HGEB1:Hid (w.heap.size ≤ w.heap.size + 1):=Lib.hid (by first | omega | (simp only [];omega) | (simp;omega))
  clear e1
  have c0_0:=HB0_1.out.cell 0 rfl
  have f0_0:=HB0_1.out.free 0
  have c0_1:=HB0_1.out.cell 1 rfl
  have f0_1:=HB0_1.out.free 1
  have c0_2:=HB0_1.out.cell 2 rfl
  have f0_2:=HB0_1.out.free 2
  have c0_3:=HB0_1.out.cell 3 rfl
  have f0_3:=HB0_1.out.free 3
  go_upto_region 2 with fail
  refine wp_name (fun W => Ext w W∧Blk W (w.heap.size) #[.int .i64 p.w,.int .i64 p.x,.int .i64 p.y,.int .i64 p.z] 22∧Blk W (w.heap.size + 1) #[.int .i64 0,.int .i64 0,.int .i64 0,.int .i64 0] 22) ⟨((((HX1.out.setCell (by have:=HGEB0.out;first | omega | (simp only [];omega) | (simp;omega)) _).setCell (by have:=HGEB0.out;first | omega | (simp only [];omega) | (simp;omega)) _).setCell (by have:=HGEB0.out;first | omega | (simp only [];omega) | (simp;omega)) _).setCell (by have:=HGEB0.out;first | omega | (simp only [];omega) | (simp;omega)) _),((((HB0_1.out.set 0 (.int .i64 p.w)).set 1 (.int .i64 p.x)).set 2 (.int .i64 p.y)).set 3 (.int .i64 p.z)),((((HB1_1.out.other (a:=⟨w.heap.size,0,none⟩) _ (by first | omega | (simp only [];omega) | (simp;omega))).other (a:=⟨w.heap.size,1,none⟩) _ (by first | omega | (simp only [];omega) | (simp;omega))).other (a:=⟨w.heap.size,2,none⟩) _ (by first | omega | (simp only [];omega) | (simp;omega))).other (a:=⟨w.heap.size,3,none⟩) _ (by first | omega | (simp only [];omega) | (simp;omega)))⟩ ?_
  rintro w2 ⟨e2,bB0_2,bB1_2⟩
  have HX2:=Lib.hid e2;have HB0_2:=Lib.hid bB0_2;have HB1_2:=Lib.hid bB1_2
  clear e2 bB0_2 bB1_2 c0_0 f0_0 c0_1 f0_1 c0_2 f0_2 c0_3 f0_3
  have c0_0:=HB0_2.out.cell 0 rfl
  have c0_1:=HB0_2.out.cell 1 rfl
  have c0_2:=HB0_2.out.cell 2 rfl
  have c0_3:=HB0_2.out.cell 3 rfl
  go_wp2_with fail
  refine (rchk_l _ (HG.out.ext HX2.out) HE.out).mono ?_;rintro e w3 ⟨rfl,e3⟩
  have HX3:Hid (Ext w w3):=Lib.hid (HX2.out.trans e3)
  have HB0_3:=Lib.hid (Blk.ext HB0_2.out e3)
  have HB1_3:=Lib.hid (Blk.ext HB1_2.out e3)
  clear e3 c0_0 c0_1 c0_2 c0_3
  have c0_0:=HB0_3.out.cell 0 rfl
  have c0_1:=HB0_3.out.cell 1 rfl
  have c0_2:=HB0_3.out.cell 2 rfl
  have c0_3:=HB0_3.out.cell 3 rfl
  have c1_0:=HB1_3.out.cell 0 rfl
  have f1_0:=HB1_3.out.free 0
  have c1_1:=HB1_3.out.cell 1 rfl
  have f1_1:=HB1_3.out.free 1
  have c1_2:=HB1_3.out.cell 2 rfl
  have f1_2:=HB1_3.out.free 2
  have c1_3:=HB1_3.out.cell 3 rfl
  have f1_3:=HB1_3.out.free 3
  go_wp2_with fail
  refine wp_name (fun W => Ext w W∧Blk W (w.heap.size + 1) #[.int .i64 p.w,.int .i64 p.x,.int .i64 p.y,.int .i64 p.z] 22) ⟨((((HX3.out.setCell (by have:=HGEB1.out;first | omega | (simp only [];omega) | (simp;omega)) _).setCell (by have:=HGEB1.out;first | omega | (simp only [];omega) | (simp;omega)) _).setCell (by have:=HGEB1.out;first | omega | (simp only [];omega) | (simp;omega)) _).setCell (by have:=HGEB1.out;first | omega | (simp only [];omega) | (simp;omega)) _),((((HB1_3.out.set 0 (.int .i64 p.w)).set 1 (.int .i64 p.x)).set 2 (.int .i64 p.y)).set 3 (.int .i64 p.z))⟩ ?_
  rintro w4 ⟨e4,bB1_4⟩
  have HX4:=Lib.hid e4;have HB1_4:=Lib.hid bB1_4
  clear e4 bB1_4 c0_0 c0_1 c0_2 c0_3 c1_0 f1_0 c1_1 f1_1 c1_2 f1_2 c1_3 f1_3
  have gB1_0:=HB1_4.out.cell 0 rfl
  have gB1_1:=HB1_4.out.cell 1 rfl
  have gB1_2:=HB1_4.out.cell 2 rfl
  have gB1_3:=HB1_4.out.cell 3 rfl
  refine bodyPost_ret (v:=.tuple #[.agg #[.int .i64 p.w,.int .i64 p.x,.int .i64 p.y,.int .i64 p.z],.int .i64 0]) (by simp [results,Tryz.results57,go_sem,gB1_0,gB1_1,gB1_2,gB1_3]) rfl ⟨rfl,HX4.out⟩

set_option maxRecDepth 100000 in
set_option maxHeartbeats 16000000 in
theorem rcomp_ok (a b p:Q4) (w:World) (g:Gd w) (hea:QErr a 0) (heb:QErr b 0) (hia:Q4In a) (hib:Q4In b) (hza:¬ a.zero) (hzb:¬ b.zero) (hp:prim4 (prod4 a b) = p) (he:QErr p 0):Calls Tryz.prog 24 #[.agg #[.int .i64 a.w,.int .i64 a.x,.int .i64 a.y,.int .i64 a.z],.agg #[.int .i64 b.w,.int .i64 b.x,.int .i64 b.y,.int .i64 b.z]] w (Ret w (.tuple #[.agg #[.int .i64 p.w,.int .i64 p.x,.int .i64 p.y,.int .i64 p.z],.int .i64 0])):=by
  have HEA:=Lib.hid hea
  have HEB:=Lib.hid heb
  have HZA:=Lib.hid hza
  have HZB:=Lib.hid hzb
  have HEP:=Lib.hid hp
  have HE:=Lib.hid he
  have HG:=Lib.hid g
  clear hea heb hza hzb hp he g
  have pww:=mul_bd hia.w hib.w
  have pwx:=mul_bd hia.w hib.x
  have pwy:=mul_bd hia.w hib.y
  have pwz:=mul_bd hia.w hib.z
  have pxw:=mul_bd hia.x hib.w
  have pxx:=mul_bd hia.x hib.x
  have pxy:=mul_bd hia.x hib.y
  have pxz:=mul_bd hia.x hib.z
  have pyw:=mul_bd hia.y hib.w
  have pyx:=mul_bd hia.y hib.x
  have pyy:=mul_bd hia.y hib.y
  have pyz:=mul_bd hia.y hib.z
  have pzw:=mul_bd hia.z hib.w
  have pzx:=mul_bd hia.z hib.x
  have pzy:=mul_bd hia.z hib.y
  have pzz:=mul_bd hia.z hib.z
  have HIA:=Lib.hid hia;have HIB:=Lib.hid hib;clear hia hib
  go_enter Tryz.func24,Tryz.ntmps24
  go_wp2_with fail
  refine (rchks_ok a b 0 (w.heap.size + 1 + 1 + 1) _ (HG.out.ext (((((Ext.refl w).alloc _).alloc _).alloc _).alloc _)) (Blk.new' (w:=_) (cs:=#[.int .i64 a.w,.int .i64 a.x,.int .i64 a.y,.int .i64 a.z,.int .i64 b.w,.int .i64 b.x,.int .i64 b.y,.int .i64 b.z]) (t:=22) (by first | rfl | (simp only [World.size_alloc];done) | (simp only [World.size_alloc];omega) | simp)) HEA.out HEB.out).mono ?_;rintro e w1 ⟨rfl,e1⟩
  have HX1:Hid (Ext w w1):=Lib.hid ((((((Ext.refl w).alloc _).alloc _).alloc _).alloc _).trans e1)
  have HB0_1:Hid (Blk w1 (w.heap.size) #[.int .i64 a.w,.int .i64 a.x,.int .i64 a.y,.int .i64 a.z] 22):=Lib.hid (Blk.ext ((((Blk.new' (w:=_) (cs:=#[.int .i64 a.w,.int .i64 a.x,.int .i64 a.y,.int .i64 a.z]) (t:=22) (by first | rfl | (simp only [World.size_alloc];done) | (simp only [World.size_alloc];omega) | simp)).alloc _).alloc _).alloc _) e1)
  have HB1_1:Hid (Blk w1 (w.heap.size + 1) #[.int .i64 b.w,.int .i64 b.x,.int .i64 b.y,.int .i64 b.z] 22):=Lib.hid (Blk.ext (((Blk.new' (w:=_) (cs:=#[.int .i64 b.w,.int .i64 b.x,.int .i64 b.y,.int .i64 b.z]) (t:=22) (by first | rfl | (simp only [World.size_alloc];done) | (simp only [World.size_alloc];omega) | simp)).alloc _).alloc _) e1)
  have HB2_1:Hid (Blk w1 (w.heap.size + 1 + 1) #[.int .i64 0,.int .i64 0,.int .i64 0,.int .i64 0] 22):=Lib.hid (Blk.ext ((Blk.new' (w:=_) (cs:=#[.int .i64 0,.int .i64 0,.int .i64 0,.int .i64 0]) (t:=22) (by first | rfl | (simp only [World.size_alloc];done) | (simp only [World.size_alloc];omega) | simp)).alloc _) e1)
  have HB3_1:Hid (Blk w1 (w.heap.size + 1 + 1 + 1) #[.int .i64 a.w,.int .i64 a.x,.int .i64 a.y,.int .i64 a.z,.int .i64 b.w,.int .i64 b.x,.int .i64 b.y,.int .i64 b.z] 22):=Lib.hid (Blk.ext (Blk.new' (w:=_) (cs:=#[.int .i64 a.w,.int .i64 a.x,.int .i64 a.y,.int .i64 a.z,.int .i64 b.w,.int .i64 b.x,.int .i64 b.y,.int .i64 b.z]) (t:=22) (by first | rfl | (simp only [World.size_alloc];done) | (simp only [World.size_alloc];omega) | simp)) e1)
  have HGEB0:Hid (w.heap.size ≤ w.heap.size):=Lib.hid (by first | omega | (simp only [];omega) | (simp;omega))
  have HGEB1:Hid (w.heap.size ≤ w.heap.size + 1):=Lib.hid (by first | omega | (simp only [];omega) | (simp;omega))
  have HGEB2:Hid (w.heap.size ≤ w.heap.size + 1 + 1):=Lib.hid (by first | omega | (simp only [];omega) | (simp;omega))
  have HGEB3:Hid (w.heap.size ≤ w.heap.size + 1 + 1 + 1):=Lib.hid (by first | omega | (simp only [];omega) | (simp;omega))
  clear e1
  have c0_0:=HB0_1.out.cell 0 rfl
  have c1_0:=HB1_1.out.cell 0 rfl
  have c0_1:=HB0_1.out.cell 1 rfl
  have c1_1:=HB1_1.out.cell 1 rfl
  have c0_2:=HB0_1.out.cell 2 rfl
  have c1_2:=HB1_1.out.cell 2 rfl
  have c0_3:=HB0_1.out.cell 3 rfl
  have c1_3:=HB1_1.out.cell 3 rfl
  go_wp2_with fail
  refine (rbnd_ok (prod4 a b) p _ (HG.out.ext HX1.out) (prod4_bd HIA.out HIB.out) (prod4_nz HZA.out HZB.out) HEP.out HE.out).mono ?_;rintro e w2 ⟨rfl,e2⟩
  have HX2:Hid (Ext w w2):=Lib.hid (HX1.out.trans e2)
  have HB2_2:=Lib.hid (Blk.ext HB2_1.out e2)
  clear e2 c0_0 c1_0 c0_1 c1_1 c0_2 c1_2 c0_3 c1_3
  have c2_0:=HB2_2.out.cell 0 rfl
  have f2_0:=HB2_2.out.free 0
  have c2_1:=HB2_2.out.cell 1 rfl
  have f2_1:=HB2_2.out.free 1
  have c2_2:=HB2_2.out.cell 2 rfl
  have f2_2:=HB2_2.out.free 2
  have c2_3:=HB2_2.out.cell 3 rfl
  have f2_3:=HB2_2.out.free 3
  go_wp2_with fail
  refine wp_name (fun W => Ext w W∧Blk W (w.heap.size + 1 + 1) #[.int .i64 p.w,.int .i64 p.x,.int .i64 p.y,.int .i64 p.z] 22) ⟨((((HX2.out.setCell (by have:=HGEB2.out;first | omega | (simp only [];omega) | (simp;omega)) _).setCell (by have:=HGEB2.out;first | omega | (simp only [];omega) | (simp;omega)) _).setCell (by have:=HGEB2.out;first | omega | (simp only [];omega) | (simp;omega)) _).setCell (by have:=HGEB2.out;first | omega | (simp only [];omega) | (simp;omega)) _),((((HB2_2.out.set 0 (.int .i64 p.w)).set 1 (.int .i64 p.x)).set 2 (.int .i64 p.y)).set 3 (.int .i64 p.z))⟩ ?_
  rintro w3 ⟨e3,bB2_3⟩
  have HX3:=Lib.hid e3;have HB2_3:=Lib.hid bB2_3
  clear e3 bB2_3 c2_0 f2_0 c2_1 f2_1 c2_2 f2_2 c2_3 f2_3
  have gB2_0:=HB2_3.out.cell 0 rfl
  have gB2_1:=HB2_3.out.cell 1 rfl
  have gB2_2:=HB2_3.out.cell 2 rfl
  have gB2_3:=HB2_3.out.cell 3 rfl
  refine bodyPost_ret (v:=.tuple #[.agg #[.int .i64 p.w,.int .i64 p.x,.int .i64 p.y,.int .i64 p.z],.int .i64 0]) (by simp [results,Tryz.results24,go_sem,gB2_0,gB2_1,gB2_2,gB2_3]) rfl ⟨rfl,HX3.out⟩

end Go.Proofs.YtjeimihnoiephaaGreatDoor
