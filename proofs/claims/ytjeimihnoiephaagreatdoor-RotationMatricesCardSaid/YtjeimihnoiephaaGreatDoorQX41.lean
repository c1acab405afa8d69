/- Part 41 of the proof: M10. -/
import Derived.Test.YtjeimihnoiephaaGreatDoorQX1
import Derived.Test.YtjeimihnoiephaaGreatDoorQX2
import Derived.Test.YtjeimihnoiephaaGreatDoorQX3
import Derived.Test.YtjeimihnoiephaaGreatDoorQX4
import Derived.Test.YtjeimihnoiephaaGreatDoorQX5
import Derived.Test.YtjeimihnoiephaaGreatDoorQX6
import Derived.Test.YtjeimihnoiephaaGreatDoorQX7
import Derived.Test.YtjeimihnoiephaaGreatDoorQX8
import Derived.Test.YtjeimihnoiephaaGreatDoorQX9
import Derived.Test.YtjeimihnoiephaaGreatDoorQX10
import Derived.Test.YtjeimihnoiephaaGreatDoorQX11
import Derived.Test.YtjeimihnoiephaaGreatDoorQX12
import Derived.Test.YtjeimihnoiephaaGreatDoorQX13
import Derived.Test.YtjeimihnoiephaaGreatDoorQX14
import Derived.Test.YtjeimihnoiephaaGreatDoorQX15
import Derived.Test.YtjeimihnoiephaaGreatDoorQX16
import Derived.Test.YtjeimihnoiephaaGreatDoorQX17
import Derived.Test.YtjeimihnoiephaaGreatDoorQX18
import Derived.Test.YtjeimihnoiephaaGreatDoorQX19
import Derived.Test.YtjeimihnoiephaaGreatDoorQX20
import Derived.Test.YtjeimihnoiephaaGreatDoorQX21
import Derived.Test.YtjeimihnoiephaaGreatDoorQX22
import Derived.Test.YtjeimihnoiephaaGreatDoorQX23
import Derived.Test.YtjeimihnoiephaaGreatDoorQX24
import Derived.Test.YtjeimihnoiephaaGreatDoorQX25
import Derived.Test.YtjeimihnoiephaaGreatDoorQX26
import Derived.Test.YtjeimihnoiephaaGreatDoorQX27
import Derived.Test.YtjeimihnoiephaaGreatDoorQX28
import Derived.Test.YtjeimihnoiephaaGreatDoorQX34
import Derived.Test.YtjeimihnoiephaaGreatDoorQX35
import Derived.Test.YtjeimihnoiephaaGreatDoorQX37
import Derived.Test.YtjeimihnoiephaaGreatDoorQX38
namespace Go.Proofs.YtjeimihnoiephaaGreatDoor
open Go Go.RowKit
set_option linter.unusedVariables false
structure Q4S (t:Q4):Prop where
  w:-20 ≤ t.w∧t.w ≤ 20
  x:-20 ≤ t.x∧t.x ≤ 20
  y:-20 ≤ t.y∧t.y ≤ 20
  z:-20 ≤ t.z∧t.z ≤ 20
theorem Q4S.inn {t:Q4} (h:Q4S t):Q4In t:=⟨by have:=h.w;omega,by have:=h.x;omega,by have:=h.y;omega,by have:=h.z;omega⟩
theorem tmod21 (i:Int):-20 ≤ i.tmod 21∧i.tmod 21 ≤ 20:=by
  have h:=Int.natAbs_tmod i 21
  have:=Nat.mod_lt i.natAbs (y:=21) (by decide)
  simp only [show (21:Int).natAbs = 21 from rfl] at h
  omega
def mk4 (a b c d:Int):Q4:=if a.tmod 21 = 0∧b.tmod 21 = 0∧c.tmod 21 = 0∧d.tmod 21 = 0 then ⟨1,0,0,0⟩ else ⟨a.tmod 21,b.tmod 21,c.tmod 21,d.tmod 21⟩
theorem mk4_s (a b c d:Int):Q4S (mk4 a b c d):=by
  unfold mk4
  split
  · exact ⟨by decide,by decide,by decide,by decide⟩
  · exact ⟨tmod21 a,tmod21 b,tmod21 c,tmod21 d⟩
theorem mk4_nz (a b c d:Int):¬ (mk4 a b c d).zero:=by
  unfold mk4
  split
  · rintro ⟨h,_⟩;exact absurd h (by decide)
  · rename_i h;exact h

set_option maxRecDepth 100000 in
set_option maxHeartbeats 2000000 in
theorem mk4_k0 (n0 n1 n2 n3 a b c d:Int) (w:World) (g:Gd w) (hn0:-128 ≤ n0∧n0 ≤ 127) (hn1:-128 ≤ n1∧n1 ≤ 127) (hn2:-128 ≤ n2∧n2 ≤ 127) (hn3:-128 ≤ n3∧n3 ≤ 127) (e0:n0.tmod 21 = a) (e1:n1.tmod 21 = b) (e2:n2.tmod 21 = c) (e3:n3.tmod 21 = d) (h:a ≠ 0):Calls Tryz.prog 26 #[.agg #[.int .i8 n0,.int .i8 n1,.int .i8 n2,.int .i8 n3]] w (Ret w (.agg #[.int .i64 a,.int .i64 b,.int .i64 c,.int .i64 d])):=by
  have HG:=Lib.hid g
  clear g
  have wn0_:IntKind.i64.wrap n0 = n0:=IntWalk.i64_in n0 (by omega)
  have wn1_:IntKind.i64.wrap n1 = n1:=IntWalk.i64_in n1 (by omega)
  have wn2_:IntKind.i64.wrap n2 = n2:=IntWalk.i64_in n2 (by omega)
  have wn3_:IntKind.i64.wrap n3 = n3:=IntWalk.i64_in n3 (by omega)
  have h_n:(a != 0) = true:=bne_iff_ne.2 h
  have h_e:(a == 0) = false:=beq_eq_false_iff_ne.2 h
  clear h
  clear hn0 hn1 hn2 hn3
  have eqa0:=eq4 a b c d 0 0 0 0
  go_enter Tryz.func26,Tryz.ntmps26
  go_wp2_with fail
  refine wp_loop_rounds 5 ?_
  rw [rounds_succ]
  go_wp2_with fail
  rw [rounds_succ]
  go_wp2_with fail
  rw [rounds_succ]
  go_wp2_with fail
  rw [rounds_succ]
  go_wp2_with fail
  rw [rounds_succ]
  go_wp2_with fail
  refine wp_name (fun W => Ext w W∧Blk W (w.heap.size + 1) #[.int .i64 a,.int .i64 b,.int .i64 c,.int .i64 d] 22) ⟨((((Ext.refl w).alloc _).alloc _).alloc _),((Blk.new' (w:=_) (cs:=#[.int .i64 a,.int .i64 b,.int .i64 c,.int .i64 d]) (t:=22) (by first | rfl | (simp only [World.size_alloc];done) | (simp only [World.size_alloc];omega) | simp)).alloc _)⟩ ?_
  rintro w1 ⟨e1,bB1_1⟩
  have HX1:=Lib.hid e1;have HB1_1:=Lib.hid bB1_1
  have HGEB1:Hid (w.heap.size ≤ w.heap.size + 1):=Lib.hid (by first | omega | (simp only [];omega) | (simp;omega))
  clear e1 bB1_1
  have gB1_0:=HB1_1.out.cell 0 rfl
  have gB1_1:=HB1_1.out.cell 1 rfl
  have gB1_2:=HB1_1.out.cell 2 rfl
  have gB1_3:=HB1_1.out.cell 3 rfl
  refine bodyPost_ret (v:=.agg #[.int .i64 a,.int .i64 b,.int .i64 c,.int .i64 d]) (by simp [results,Tryz.results26,go_sem,gB1_0,gB1_1,gB1_2,gB1_3]) rfl ⟨rfl,HX1.out⟩

set_option maxRecDepth 100000 in
set_option maxHeartbeats 2000000 in
theorem mk4_k1 (n0 n1 n2 n3 b c d:Int) (w:World) (g:Gd w) (hn0:-128 ≤ n0∧n0 ≤ 127) (hn1:-128 ≤ n1∧n1 ≤ 127) (hn2:-128 ≤ n2∧n2 ≤ 127) (hn3:-128 ≤ n3∧n3 ≤ 127) (e0:n0.tmod 21 = 0) (e1:n1.tmod 21 = b) (e2:n2.tmod 21 = c) (e3:n3.tmod 21 = d) (h:b ≠ 0):Calls Tryz.prog 26 #[.agg #[.int .i8 n0,.int .i8 n1,.int .i8 n2,.int .i8 n3]] w (Ret w (.agg #[.int .i64 0,.int .i64 b,.int .i64 c,.int .i64 d])):=by
  have HG:=Lib.hid g
  clear g
  have wn0_:IntKind.i64.wrap n0 = n0:=IntWalk.i64_in n0 (by omega)
  have wn1_:IntKind.i64.wrap n1 = n1:=IntWalk.i64_in n1 (by omega)
  have wn2_:IntKind.i64.wrap n2 = n2:=IntWalk.i64_in n2 (by omega)
  have wn3_:IntKind.i64.wrap n3 = n3:=IntWalk.i64_in n3 (by omega)
  have h_n:(b != 0) = true:=bne_iff_ne.2 h
  have h_e:(b == 0) = false:=beq_eq_false_iff_ne.2 h
  clear h
  clear hn0 hn1 hn2 hn3
  have eqa0:=eq4 0 b c d 0 0 0 0
  go_enter Tryz.func26,Tryz.ntmps26
  go_wp2_with fail
  refine wp_loop_rounds 5 ?_
  rw [rounds_succ]
  go_wp2_with fail
  rw [rounds_succ]
  go_wp2_with fail
  rw [rounds_succ]
  go_wp2_with fail
  rw [rounds_succ]
  go_wp2_with fail
  rw [rounds_succ]
  go_wp2_with fail
  refine wp_name (fun W => Ext w W∧Blk W (w.heap.size + 1) #[.int .i64 0,.int .i64 b,.int .i64 c,.int .i64 d] 22) ⟨((((Ext.refl w).alloc _).alloc _).alloc _),((Blk.new' (w:=_) (cs:=#[.int .i64 0,.int .i64 b,.int .i64 c,.int .i64 d]) (t:=22) (by first | rfl | (simp only [World.size_alloc];done) | (simp only [World.size_alloc];omega) | simp)).alloc _)⟩ ?_
  rintro w1 ⟨e1,bB1_1⟩
  have HX1:=Lib.hid e1;have HB1_1:=Lib.hid bB1_1
  have HGEB1:Hid (w.heap.size ≤ w.heap.size + 1):=Lib.hid (by first | omega | (simp only [];omega) | (simp;omega))
  clear e1 bB1_1
  have gB1_0:=HB1_1.out.cell 0 rfl
  have gB1_1:=HB1_1.out.cell 1 rfl
  have gB1_2:=HB1_1.out.cell 2 rfl
  have gB1_3:=HB1_1.out.cell 3 rfl
  refine bodyPost_ret (v:=.agg #[.int .i64 0,.int .i64 b,.int .i64 c,.int .i64 d]) (by simp [results,Tryz.results26,go_sem,gB1_0,gB1_1,gB1_2,gB1_3]) rfl ⟨rfl,HX1.out⟩

set_option maxRecDepth 100000 in
set_option maxHeartbeats 2000000 in
theorem mk4_k2 (n0 n1 n2 n3 c d:Int) (w:World) (g:Gd w) (hn0:-128 ≤ n0∧n0 ≤ 127) (hn1:-128 ≤ n1∧n1 ≤ 127) (hn2:-128 ≤ n2∧n2 ≤ 127) (hn3:-128 ≤ n3∧n3 ≤ 127) (e0:n0.tmod 21 = 0) (e1:n1.tmod 21 = 0) (e2:n2.tmod 21 = c) (e3:n3.tmod 21 = d) (h:c ≠ 0):Calls Tryz.prog 26 #[.agg #[.int .i8 n0,.int .i8 n1,.int .i8 n2,.int .i8 n3]] w (Ret w (.agg #[.int .i64 0,.int .i64 0,.int .i64 c,.int .i64 d])):=by
  have HG:=Lib.hid g
  clear g
  have wn0_:IntKind.i64.wrap n0 = n0:=IntWalk.i64_in n0 (by omega)
  have wn1_:IntKind.i64.wrap n1 = n1:=IntWalk.i64_in n1 (by omega)
  have wn2_:IntKind.i64.wrap n2 = n2:=IntWalk.i64_in n2 (by omega)
  have wn3_:IntKind.i64.wrap n3 = n3:=IntWalk.i64_in n3 (by omega)
  have h_n:(c != 0) = true:=bne_iff_ne.2 h
  have h_e:(c == 0) = false:=beq_eq_false_iff_ne.2 h
  clear h
  clear hn0 hn1 hn2 hn3
  have eqa0:=eq4 0 0 c d 0 0 0 0
  go_enter Tryz.func26,Tryz.ntmps26
  go_wp2_with fail
  refine wp_loop_rounds 5 ?_
  rw [rounds_succ]
  go_wp2_with fail
  rw [rounds_succ]
  go_wp2_with fail
  rw [rounds_succ]
  go_wp2_with fail
  rw [rounds_succ]
  go_wp2_with fail
  rw [rounds_succ]
  go_wp2_with fail
  refine wp_name (fun W => Ext w W∧Blk W (w.heap.size + 1) #[.int .i64 0,.int .i64 0,.int .i64 c,.int .i64 d] 22) ⟨((((Ext.refl w).alloc _).alloc _).alloc _),((Blk.new' (w:=_) (cs:=#[.int .i64 0,.int .i64 0,.int .i64 c,.int .i64 d]) (t:=22) (by first | rfl | (simp only [World.size_alloc];done) | (simp only [World.size_alloc];omega) | simp)).alloc _)⟩ ?_
  rintro w1 ⟨e1,bB1_1⟩
  have HX1:=Lib.hid e1;have HB1_1:=Lib.hid bB1_1
  have HGEB1:Hid (w.heap.size ≤ w.heap.size + 1):=Lib.hid (by first | omega | (simp only [];omega) | (simp;omega))
  clear e1 bB1_1
  have gB1_0:=HB1_1.out.cell 0 rfl
  have gB1_1:=HB1_1.out.cell 1 rfl
  have gB1_2:=HB1_1.out.cell 2 rfl
  have gB1_3:=HB1_1.out.cell 3 rfl
  refine bodyPost_ret (v:=.agg #[.int .i64 0,.int .i64 0,.int .i64 c,.int .i64 d]) (by simp [results,Tryz.results26,go_sem,gB1_0,gB1_1,gB1_2,gB1_3]) rfl ⟨rfl,HX1.out⟩

set_option maxRecDepth 100000 in
set_option maxHeartbeats 2000000 in
theorem mk4_k3 (n0 n1 n2 n3 d:Int) (w:World) (g:Gd w) (hn0:-128 ≤ n0∧n0 ≤ 127) (hn1:-128 ≤ n1∧n1 ≤ 127) (hn2:-128 ≤ n2∧n2 ≤ 127) (hn3:-128 ≤ n3∧n3 ≤ 127) (e0:n0.tmod 21 = 0) (e1:n1.tmod 21 = 0) (e2:n2.tmod 21 = 0) (e3:n3.tmod 21 = d) (h:d ≠ 0):Calls Tryz.prog 26 #[.agg #[.int .i8 n0,.int .i8 n1,.int .i8 n2,.int .i8 n3]] w (Ret w (.agg #[.int .i64 0,.int .i64 0,.int .i64 0,.int .i64 d])):=by
  have HG:=Lib.hid g
  clear g
  have wn0_:IntKind.i64.wrap n0 = n0:=IntWalk.i64_in n0 (by omega)
  have wn1_:IntKind.i64.wrap n1 = n1:=IntWalk.i64_in n1 (by omega)
  have wn2_:IntKind.i64.wrap n2 = n2:=IntWalk.i64_in n2 (by omega)
  have wn3_:IntKind.i64.wrap n3 = n3:=IntWalk.i64_in n3 (by omega)
  have h_n:(d != 0) = true:=bne_iff_ne.2 h
  have h_e:(d == 0) = false:=beq_eq_false_iff_ne.2 h
  clear h
  clear hn0 hn1 hn2 hn3
  have eqa0:=eq4 0 0 0 d 0 0 0 0
  go_enter Tryz.func26,Tryz.ntmps26
  go_wp2_with fail
  refine wp_loop_rounds 5 ?_
  rw [rounds_succ]
  go_wp2_with fail
  rw [rounds_succ]
  go_wp2_with fail
  rw [rounds_succ]
  go_wp2_with fail
  rw [rounds_succ]
  go_wp2_with fail
  rw [rounds_succ]
  go_wp2_with fail
  refine wp_name (fun W => Ext w W∧Blk W (w.heap.size + 1) #[.int .i64 0,.int .i64 0,.int .i64 0,.int .i64 d] 22) ⟨((((Ext.refl w).alloc _).alloc _).alloc _),((Blk.new' (w:=_) (cs:=#[.int .i64 0,.int .i64 0,.int .i64 0,.int .i64 d]) (t:=22) (by first | rfl | (simp only [World.size_alloc];done) | (simp only [World.size_alloc];omega) | simp)).alloc _)⟩ ?_
  rintro w1 ⟨e1,bB1_1⟩
  have HX1:=Lib.hid e1;have HB1_1:=Lib.hid bB1_1
  have HGEB1:Hid (w.heap.size ≤ w.heap.size + 1):=Lib.hid (by first | omega | (simp only [];omega) | (simp;omega))
  clear e1 bB1_1
  have gB1_0:=HB1_1.out.cell 0 rfl
  have gB1_1:=HB1_1.out.cell 1 rfl
  have gB1_2:=HB1_1.out.cell 2 rfl
  have gB1_3:=HB1_1.out.cell 3 rfl
  refine bodyPost_ret (v:=.agg #[.int .i64 0,.int .i64 0,.int .i64 0,.int .i64 d]) (by simp [results,Tryz.results26,go_sem,gB1_0,gB1_1,gB1_2,gB1_3]) rfl ⟨rfl,HX1.out⟩

set_option maxRecDepth 100000 in
set_option maxHeartbeats 2000000 in
theorem mk4_k4 (n0 n1 n2 n3 :Int) (w:World) (g:Gd w) (hn0:-128 ≤ n0∧n0 ≤ 127) (hn1:-128 ≤ n1∧n1 ≤ 127) (hn2:-128 ≤ n2∧n2 ≤ 127) (hn3:-128 ≤ n3∧n3 ≤ 127) (e0:n0.tmod 21 = 0) (e1:n1.tmod 21 = 0) (e2:n2.tmod 21 = 0) (e3:n3.tmod 21 = 0):Calls Tryz.prog 26 #[.agg #[.int .i8 n0,.int .i8 n1,.int .i8 n2,.int .i8 n3]] w (Ret w (.agg #[.int .i64 1,.int .i64 0,.int .i64 0,.int .i64 0])):=by
  have HG:=Lib.hid g
  clear g
  have wn0_:IntKind.i64.wrap n0 = n0:=IntWalk.i64_in n0 (by omega)
  have wn1_:IntKind.i64.wrap n1 = n1:=IntWalk.i64_in n1 (by omega)
  have wn2_:IntKind.i64.wrap n2 = n2:=IntWalk.i64_in n2 (by omega)
  have wn3_:IntKind.i64.wrap n3 = n3:=IntWalk.i64_in n3 (by omega)
  clear hn0 hn1 hn2 hn3
  have eqa0:=eq4 0 0 0 0 0 0 0 0
  go_enter Tryz.func26,Tryz.ntmps26
  go_wp2_with fail
  refine wp_loop_rounds 5 ?_
  rw [rounds_succ]
  go_wp2_with fail
  rw [rounds_succ]
  go_wp2_with fail
  rw [rounds_succ]
  go_wp2_with fail
  rw [rounds_succ]
  go_wp2_with fail
  rw [rounds_succ]
  go_wp2_with fail
  refine wp_name (fun W => Ext w W∧Blk W (w.heap.size + 1) #[.int .i64 1,.int .i64 0,.int .i64 0,.int .i64 0] 22) ⟨((((Ext.refl w).alloc _).alloc _).alloc _),((Blk.new' (w:=_) (cs:=#[.int .i64 1,.int .i64 0,.int .i64 0,.int .i64 0]) (t:=22) (by first | rfl | (simp only [World.size_alloc];done) | (simp only [World.size_alloc];omega) | simp)).alloc _)⟩ ?_
  rintro w1 ⟨e1,bB1_1⟩
  have HX1:=Lib.hid e1;have HB1_1:=Lib.hid bB1_1
  have HGEB1:Hid (w.heap.size ≤ w.heap.size + 1):=Lib.hid (by first | omega | (simp only [];omega) | (simp;omega))
  clear e1 bB1_1
  have gB1_0:=HB1_1.out.cell 0 rfl
  have gB1_1:=HB1_1.out.cell 1 rfl
  have gB1_2:=HB1_1.out.cell 2 rfl
  have gB1_3:=HB1_1.out.cell 3 rfl
  refine bodyPost_ret (v:=.agg #[.int .i64 1,.int .i64 0,.int .i64 0,.int .i64 0]) (by simp [results,Tryz.results26,go_sem,gB1_0,gB1_1,gB1_2,gB1_3]) rfl ⟨rfl,HX1.out⟩

theorem mk4_c (n0 n1 n2 n3:Int) (t:Q4) (w:World) (g:Gd w) (hn0:-128 ≤ n0∧n0 ≤ 127) (hn1:-128 ≤ n1∧n1 ≤ 127) (hn2:-128 ≤ n2∧n2 ≤ 127) (hn3:-128 ≤ n3∧n3 ≤ 127) (e:mk4 n0 n1 n2 n3 = t):Calls Tryz.prog 26 #[.agg #[.int .i8 n0,.int .i8 n1,.int .i8 n2,.int .i8 n3]] w (Ret w (.agg #[.int .i64 t.w,.int .i64 t.x,.int .i64 t.y,.int .i64 t.z])):=by
  subst e
  unfold mk4
  by_cases h0:n0.tmod 21 = 0
  · by_cases h1:n1.tmod 21 = 0
    · by_cases h2:n2.tmod 21 = 0
      · by_cases h3:n3.tmod 21 = 0
        · rw [if_pos ⟨h0,h1,h2,h3⟩];exact mk4_k4 n0 n1 n2 n3 w g hn0 hn1 hn2 hn3 h0 h1 h2 h3
        · rw [if_neg (fun h => h3 h.2.2.2),h0,h1,h2];exact mk4_k3 n0 n1 n2 n3 _ w g hn0 hn1 hn2 hn3 h0 h1 h2 rfl h3
      · rw [if_neg (fun h => h2 h.2.2.1),h0,h1];exact mk4_k2 n0 n1 n2 n3 _ _ w g hn0 hn1 hn2 hn3 h0 h1 rfl rfl h2
    · rw [if_neg (fun h => h1 h.2.1),h0];exact mk4_k1 n0 n1 n2 n3 _ _ _ w g hn0 hn1 hn2 hn3 h0 rfl rfl rfl h1
  · rw [if_neg (fun h => h0 h.1)];exact mk4_k0 n0 n1 n2 n3 _ _ _ _ w g hn0 hn1 hn2 hn3 rfl rfl rfl rfl h0
theorem rapply_as (t:Q4) (v r:V3) (e:rot t v = r) {k:Nat} (w:World) (g:Gd w) (hi:Q4In t) (hz:¬ t.zero) (hv:VB k v) (hk:k ≤ 40):Calls Tryz.prog 30 #[.agg #[.int .i64 t.w,.int .i64 t.x,.int .i64 t.y,.int .i64 t.z],.agg #[.string (qs v.x),.string (qs v.y),.string (qs v.z)]] w (Ret w (.tuple #[.agg #[.string (qs r.x),.string (qs r.y),.string (qs r.z)],.int .i64 0])):=by
  subst e;exact rapply_c t v w g hi hz hv hk

end Go.Proofs.YtjeimihnoiephaaGreatDoor
