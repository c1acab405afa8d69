/- Part 34 of the proof: M10, UP. -/
import Derived.Test.YtjeimihnoiephaaGreatDoorQZ33
set_option maxRecDepth 100000
namespace Go.Proofs.YtjeimihnoiephaaGreatDoor
open Go Go.RowKit
set_option linter.unusedVariables false
theorem Blk.cast {w:World} {k:Nat} {cs cs':Array Value} {t:TypeId} (h:Blk w k cs t) (e:cs=cs'):Blk w k cs' t:=e▸h
structure Q4S (t:Q4):Prop where
  w:-20≤t.w∧t.w≤20
  x:-20≤t.x∧t.x≤20
  y:-20≤t.y∧t.y≤20
  z:-20≤t.z∧t.z≤20
theorem Q4S.inn {t:Q4} (h:Q4S t):Q4In t:=⟨by have:=h.w;omega,by have:=h.x;omega,by have:=h.y;omega,by have:=h.z;omega⟩
theorem tmod21 (i:Int):-20≤i.tmod 21∧i.tmod 21≤20:=by
  have h:=Int.natAbs_tmod i 21
  have:=Nat.mod_lt i.natAbs (y:=21) (by decide)
  simp only [show (21:Int).natAbs=21 from rfl] at h
  omega
def mk4 (a b c d:Int):Q4:=if a.tmod 21=0∧b.tmod 21=0∧c.tmod 21=0∧d.tmod 21=0 then ⟨1,0,0,0⟩ else ⟨a.tmod 21,b.tmod 21,c.tmod 21,d.tmod 21⟩
theorem mk4_s (a b c d:Int):Q4S (mk4 a b c d):=by
  unfold mk4
  split
  · exact ⟨by decide,by decide,by decide,by decide⟩
  · exact ⟨tmod21 a,tmod21 b,tmod21 c,tmod21 d⟩
theorem mk4_nz (a b c d:Int):¬ (mk4 a b c d).zero:=by
  unfold mk4
  split
  · rintro ⟨h,_⟩;exact absurd h (by decide)
  · rename_i h;exact h

set_option maxHeartbeats 2000000 in
theorem mk4_k0 (n0 n1 n2 n3 a b c d:Int) (w:World) (g:Gd w) (hn0:-128≤n0∧n0≤127) (hn1:-128≤n1∧n1≤127) (hn2:-128≤n2∧n2≤127) (hn3:-128≤n3∧n3≤127) (e0:n0.tmod 21=a) (e1:n1.tmod 21=b) (e2:n2.tmod 21=c) (e3:n3.tmod 21=d) (h:a≠0):Calls Tryz.prog 26 #[.agg #[.int .i8 n0,.int .i8 n1,.int .i8 n2,.int .i8 n3]] w (Ret w (.agg #[.int .i64 a,.int .i64 b,.int .i64 c,.int .i64 d])):=by
  have HG:=Lib.hid g
  clear g
  have wn0_:IntKind.i64.wrap n0=n0:=IntWalk.i64_in n0 (by omega)
  have wn1_:IntKind.i64.wrap n1=n1:=IntWalk.i64_in n1 (by omega)
  have wn2_:IntKind.i64.wrap n2=n2:=IntWalk.i64_in n2 (by omega)
  have wn3_:IntKind.i64.wrap n3=n3:=IntWalk.i64_in n3 (by omega)
  have h_n:(a != 0)=true:=bne_iff_ne.2 h
  have h_e:(a == 0)=false:=beq_eq_false_iff_ne.2 h
  clear h
  clear hn0 hn1 hn2 hn3
  have eqa0:=eq4 a b c d 0 0 0 0
  go_enter Tryz.func26,Tryz.ntmps26
  go_wp2_with fail
  refine wp_loop_rounds 5 ?_
  rw [rounds_succ]
  go_wp2_with fail
  rw [rounds_succ]
  go_wp2_with fail
  rw [rounds_succ]
  go_wp2_with fail
  rw [rounds_succ]
  go_wp2_with fail
  rw [rounds_succ]
  go_wp2_with fail
  refine wp_name (fun W=>Ext w W∧Blk W (w.heap.size+1) #[.int .i64 a,.int .i64 b,.int .i64 c,.int .i64 d] 22) ⟨((((Ext.refl w).alloc _).alloc _).alloc _),((Blk.new' (w:=_) (cs:=#[.int .i64 a,.int .i64 b,.int .i64 c,.int .i64 d]) (t:=22) (by first|rfl|(simp only [World.size_alloc];done)|(simp only [World.size_alloc];omega)|simp)).alloc _)⟩ ?_
  rintro w1 ⟨e1,bB1_1⟩
  have HX1:=Lib.hid e1;have HB1_1:=Lib.hid bB1_1
  have HGEB1:Hid (w.heap.size≤w.heap.size+1):=Lib.hid (by first|omega|(simp only [];omega)|(simp;omega))
  clear e1 bB1_1
  have gB1_0:=HB1_1.out.cell 0 rfl
  have gB1_1:=HB1_1.out.cell 1 rfl
  have gB1_2:=HB1_1.out.cell 2 rfl
  have gB1_3:=HB1_1.out.cell 3 rfl
  refine bodyPost_ret (v:=.agg #[.int .i64 a,.int .i64 b,.int .i64 c,.int .i64 d]) (by simp [results,Tryz.results26,go_sem,gB1_0,gB1_1,gB1_2,gB1_3]) rfl ⟨rfl,HX1.out⟩

set_option maxHeartbeats 2000000 in
theorem mk4_k1 (n0 n1 n2 n3 b c d:Int) (w:World) (g:Gd w) (hn0:-128≤n0∧n0≤127) (hn1:-128≤n1∧n1≤127) (hn2:-128≤n2∧n2≤127) (hn3:-128≤n3∧n3≤127) (e0:n0.tmod 21=0) (e1:n1.tmod 21=b) (e2:n2.tmod 21=c) (e3:n3.tmod 21=d) (h:b≠0):Calls Tryz.prog 26 #[.agg #[.int .i8 n0,.int .i8 n1,.int .i8 n2,.int .i8 n3]] w (Ret w (.agg #[.int .i64 0,.int .i64 b,.int .i64 c,.int .i64 d])):=by
  have HG:=Lib.hid g
  clear g
  have wn0_:IntKind.i64.wrap n0=n0:=IntWalk.i64_in n0 (by omega)
  have wn1_:IntKind.i64.wrap n1=n1:=IntWalk.i64_in n1 (by omega)
  have wn2_:IntKind.i64.wrap n2=n2:=IntWalk.i64_in n2 (by omega)
  have wn3_:IntKind.i64.wrap n3=n3:=IntWalk.i64_in n3 (by omega)
  have h_n:(b != 0)=true:=bne_iff_ne.2 h
  have h_e:(b == 0)=false:=beq_eq_false_iff_ne.2 h
  clear h
  clear hn0 hn1 hn2 hn3
  have eqa0:=eq4 0 b c d 0 0 0 0
  go_enter Tryz.func26,Tryz.ntmps26
  go_wp2_with fail
  refine wp_loop_rounds 5 ?_
  rw [rounds_succ]
  go_wp2_with fail
  rw [rounds_succ]
  go_wp2_with fail
  rw [rounds_succ]
  go_wp2_with fail
  rw [rounds_succ]
  go_wp2_with fail
  rw [rounds_succ]
  go_wp2_with fail
  refine wp_name (fun W=>Ext w W∧Blk W (w.heap.size+1) #[.int .i64 0,.int .i64 b,.int .i64 c,.int .i64 d] 22) ⟨((((Ext.refl w).alloc _).alloc _).alloc _),((Blk.new' (w:=_) (cs:=#[.int .i64 0,.int .i64 b,.int .i64 c,.int .i64 d]) (t:=22) (by first|rfl|(simp only [World.size_alloc];done)|(simp only [World.size_alloc];omega)|simp)).alloc _)⟩ ?_
  rintro w1 ⟨e1,bB1_1⟩
  have HX1:=Lib.hid e1;have HB1_1:=Lib.hid bB1_1
  have HGEB1:Hid (w.heap.size≤w.heap.size+1):=Lib.hid (by first|omega|(simp only [];omega)|(simp;omega))
  clear e1 bB1_1
  have gB1_0:=HB1_1.out.cell 0 rfl
  have gB1_1:=HB1_1.out.cell 1 rfl
  have gB1_2:=HB1_1.out.cell 2 rfl
  have gB1_3:=HB1_1.out.cell 3 rfl
  refine bodyPost_ret (v:=.agg #[.int .i64 0,.int .i64 b,.int .i64 c,.int .i64 d]) (by simp [results,Tryz.results26,go_sem,gB1_0,gB1_1,gB1_2,gB1_3]) rfl ⟨rfl,HX1.out⟩

set_option maxHeartbeats 2000000 in
theorem mk4_k2 (n0 n1 n2 n3 c d:Int) (w:World) (g:Gd w) (hn0:-128≤n0∧n0≤127) (hn1:-128≤n1∧n1≤127) (hn2:-128≤n2∧n2≤127) (hn3:-128≤n3∧n3≤127) (e0:n0.tmod 21=0) (e1:n1.tmod 21=0) (e2:n2.tmod 21=c) (e3:n3.tmod 21=d) (h:c≠0):Calls Tryz.prog 26 #[.agg #[.int .i8 n0,.int .i8 n1,.int .i8 n2,.int .i8 n3]] w (Ret w (.agg #[.int .i64 0,.int .i64 0,.int .i64 c,.int .i64 d])):=by
  have HG:=Lib.hid g
  clear g
  have wn0_:IntKind.i64.wrap n0=n0:=IntWalk.i64_in n0 (by omega)
  have wn1_:IntKind.i64.wrap n1=n1:=IntWalk.i64_in n1 (by omega)
  have wn2_:IntKind.i64.wrap n2=n2:=IntWalk.i64_in n2 (by omega)
  have wn3_:IntKind.i64.wrap n3=n3:=IntWalk.i64_in n3 (by omega)
  have h_n:(c != 0)=true:=bne_iff_ne.2 h
  have h_e:(c == 0)=false:=beq_eq_false_iff_ne.2 h
  clear h
  clear hn0 hn1 hn2 hn3
  have eqa0:=eq4 0 0 c d 0 0 0 0
  go_enter Tryz.func26,Tryz.ntmps26
  go_wp2_with fail
  refine wp_loop_rounds 5 ?_
  rw [rounds_succ]
  go_wp2_with fail
  rw [rounds_succ]
  go_wp2_with fail
  rw [rounds_succ]
  go_wp2_with fail
  rw [rounds_succ]
  go_wp2_with fail
  rw [rounds_succ]
  go_wp2_with fail
  refine wp_name (fun W=>Ext w W∧Blk W (w.heap.size+1) #[.int .i64 0,.int .i64 0,.int .i64 c,.int .i64 d] 22) ⟨((((Ext.refl w).alloc _).alloc _).alloc _),((Blk.new' (w:=_) (cs:=#[.int .i64 0,.int .i64 0,.int .i64 c,.int .i64 d]) (t:=22) (by first|rfl|(simp only [World.size_alloc];done)|(simp only [World.size_alloc];omega)|simp)).alloc _)⟩ ?_
  rintro w1 ⟨e1,bB1_1⟩
  have HX1:=Lib.hid e1;have HB1_1:=Lib.hid bB1_1
  have HGEB1:Hid (w.heap.size≤w.heap.size+1):=Lib.hid (by first|omega|(simp only [];omega)|(simp;omega))
  clear e1 bB1_1
  have gB1_0:=HB1_1.out.cell 0 rfl
  have gB1_1:=HB1_1.out.cell 1 rfl
  have gB1_2:=HB1_1.out.cell 2 rfl
  have gB1_3:=HB1_1.out.cell 3 rfl
  refine bodyPost_ret (v:=.agg #[.int .i64 0,.int .i64 0,.int .i64 c,.int .i64 d]) (by simp [results,Tryz.results26,go_sem,gB1_0,gB1_1,gB1_2,gB1_3]) rfl ⟨rfl,HX1.out⟩

set_option maxHeartbeats 2000000 in
theorem mk4_k3 (n0 n1 n2 n3 d:Int) (w:World) (g:Gd w) (hn0:-128≤n0∧n0≤127) (hn1:-128≤n1∧n1≤127) (hn2:-128≤n2∧n2≤127) (hn3:-128≤n3∧n3≤127) (e0:n0.tmod 21=0) (e1:n1.tmod 21=0) (e2:n2.tmod 21=0) (e3:n3.tmod 21=d) (h:d≠0):Calls Tryz.prog 26 #[.agg #[.int .i8 n0,.int .i8 n1,.int .i8 n2,.int .i8 n3]] w (Ret w (.agg #[.int .i64 0,.int .i64 0,.int .i64 0,.int .i64 d])):=by
  have HG:=Lib.hid g
  clear g
  have wn0_:IntKind.i64.wrap n0=n0:=IntWalk.i64_in n0 (by omega)
  have wn1_:IntKind.i64.wrap n1=n1:=IntWalk.i64_in n1 (by omega)
  have wn2_:IntKind.i64.wrap n2=n2:=IntWalk.i64_in n2 (by omega)
  have wn3_:IntKind.i64.wrap n3=n3:=IntWalk.i64_in n3 (by omega)
  have h_n:(d != 0)=true:=bne_iff_ne.2 h
  have h_e:(d == 0)=false:=beq_eq_false_iff_ne.2 h
  clear h
  clear hn0 hn1 hn2 hn3
  have eqa0:=eq4 0 0 0 d 0 0 0 0
  go_enter Tryz.func26,Tryz.ntmps26
  go_wp2_with fail
  refine wp_loop_rounds 5 ?_
  rw [rounds_succ]
  go_wp2_with fail
  rw [rounds_succ]
  go_wp2_with fail
  rw [rounds_succ]
  go_wp2_with fail
  rw [rounds_succ]
  go_wp2_with fail
  rw [rounds_succ]
  go_wp2_with fail
  refine wp_name (fun W=>Ext w W∧Blk W (w.heap.size+1) #[.int .i64 0,.int .i64 0,.int .i64 0,.int .i64 d] 22) ⟨((((Ext.refl w).alloc _).alloc _).alloc _),((Blk.new' (w:=_) (cs:=#[.int .i64 0,.int .i64 0,.int .i64 0,.int .i64 d]) (t:=22) (by first|rfl|(simp only [World.size_alloc];done)|(simp only [World.size_alloc];omega)|simp)).alloc _)⟩ ?_
  rintro w1 ⟨e1,bB1_1⟩
  have HX1:=Lib.hid e1;have HB1_1:=Lib.hid bB1_1
  have HGEB1:Hid (w.heap.size≤w.heap.size+1):=Lib.hid (by first|omega|(simp only [];omega)|(simp;omega))
  clear e1 bB1_1
  have gB1_0:=HB1_1.out.cell 0 rfl
  have gB1_1:=HB1_1.out.cell 1 rfl
  have gB1_2:=HB1_1.out.cell 2 rfl
  have gB1_3:=HB1_1.out.cell 3 rfl
  refine bodyPost_ret (v:=.agg #[.int .i64 0,.int .i64 0,.int .i64 0,.int .i64 d]) (by simp [results,Tryz.results26,go_sem,gB1_0,gB1_1,gB1_2,gB1_3]) rfl ⟨rfl,HX1.out⟩

set_option maxHeartbeats 2000000 in
theorem mk4_k4 (n0 n1 n2 n3 :Int) (w:World) (g:Gd w) (hn0:-128≤n0∧n0≤127) (hn1:-128≤n1∧n1≤127) (hn2:-128≤n2∧n2≤127) (hn3:-128≤n3∧n3≤127) (e0:n0.tmod 21=0) (e1:n1.tmod 21=0) (e2:n2.tmod 21=0) (e3:n3.tmod 21=0):Calls Tryz.prog 26 #[.agg #[.int .i8 n0,.int .i8 n1,.int .i8 n2,.int .i8 n3]] w (Ret w (.agg #[.int .i64 1,.int .i64 0,.int .i64 0,.int .i64 0])):=by
  have HG:=Lib.hid g
  clear g
  have wn0_:IntKind.i64.wrap n0=n0:=IntWalk.i64_in n0 (by omega)
  have wn1_:IntKind.i64.wrap n1=n1:=IntWalk.i64_in n1 (by omega)
  have wn2_:IntKind.i64.wrap n2=n2:=IntWalk.i64_in n2 (by omega)
  have wn3_:IntKind.i64.wrap n3=n3:=IntWalk.i64_in n3 (by omega)
  clear hn0 hn1 hn2 hn3
  have eqa0:=eq4 0 0 0 0 0 0 0 0
  go_enter Tryz.func26,Tryz.ntmps26
  go_wp2_with fail
  refine wp_loop_rounds 5 ?_
  rw [rounds_succ]
  go_wp2_with fail
  rw [rounds_succ]
  go_wp2_with fail
  rw [rounds_succ]
  go_wp2_with fail
  rw [rounds_succ]
  go_wp2_with fail
  rw [rounds_succ]
  go_wp2_with fail
  refine wp_name (fun W=>Ext w W∧Blk W (w.heap.size+1) #[.int .i64 1,.int .i64 0,.int .i64 0,.int .i64 0] 22) ⟨((((Ext.refl w).alloc _).alloc _).alloc _),((Blk.new' (w:=_) (cs:=#[.int .i64 1,.int .i64 0,.int .i64 0,.int .i64 0]) (t:=22) (by first|rfl|(simp only [World.size_alloc];done)|(simp only [World.size_alloc];omega)|simp)).alloc _)⟩ ?_
  rintro w1 ⟨e1,bB1_1⟩
  have HX1:=Lib.hid e1;have HB1_1:=Lib.hid bB1_1
  have HGEB1:Hid (w.heap.size≤w.heap.size+1):=Lib.hid (by first|omega|(simp only [];omega)|(simp;omega))
  clear e1 bB1_1
  have gB1_0:=HB1_1.out.cell 0 rfl
  have gB1_1:=HB1_1.out.cell 1 rfl
  have gB1_2:=HB1_1.out.cell 2 rfl
  have gB1_3:=HB1_1.out.cell 3 rfl
  refine bodyPost_ret (v:=.agg #[.int .i64 1,.int .i64 0,.int .i64 0,.int .i64 0]) (by simp [results,Tryz.results26,go_sem,gB1_0,gB1_1,gB1_2,gB1_3]) rfl ⟨rfl,HX1.out⟩

theorem mk4_c (n0 n1 n2 n3:Int) (t:Q4) (w:World) (g:Gd w) (hn0:-128≤n0∧n0≤127) (hn1:-128≤n1∧n1≤127) (hn2:-128≤n2∧n2≤127) (hn3:-128≤n3∧n3≤127) (e:mk4 n0 n1 n2 n3=t):Calls Tryz.prog 26 #[.agg #[.int .i8 n0,.int .i8 n1,.int .i8 n2,.int .i8 n3]] w (Ret w (.agg #[.int .i64 t.w,.int .i64 t.x,.int .i64 t.y,.int .i64 t.z])):=by
  subst e
  unfold mk4
  by_cases h0:n0.tmod 21=0
  · by_cases h1:n1.tmod 21=0
    · by_cases h2:n2.tmod 21=0
      · by_cases h3:n3.tmod 21=0
        · rw [if_pos ⟨h0,h1,h2,h3⟩];exact mk4_k4 n0 n1 n2 n3 w g hn0 hn1 hn2 hn3 h0 h1 h2 h3
        · rw [if_neg (fun h=>h3 h.2.2.2),h0,h1,h2];exact mk4_k3 n0 n1 n2 n3 _ w g hn0 hn1 hn2 hn3 h0 h1 h2 rfl h3
      · rw [if_neg (fun h=>h2 h.2.2.1),h0,h1];exact mk4_k2 n0 n1 n2 n3 _ _ w g hn0 hn1 hn2 hn3 h0 h1 rfl rfl h2
    · rw [if_neg (fun h=>h1 h.2.1),h0];exact mk4_k1 n0 n1 n2 n3 _ _ _ w g hn0 hn1 hn2 hn3 h0 rfl rfl rfl h1
  · rw [if_neg (fun h=>h0 h.1)];exact mk4_k0 n0 n1 n2 n3 _ _ _ _ w g hn0 hn1 hn2 hn3 rfl rfl rfl rfl h0
def iv (a b c:Int):V3:=⟨(a:Rat),(b:Rat),(c:Rat)⟩
theorem iv_vb {a b c:Int} (ha:a.natAbs<100000) (hb:b.natAbs<100000) (hc:c.natAbs<100000):VB 5 (iv a b c):=⟨QB.int ⟨ha⟩ (by decide),QB.int ⟨hb⟩ (by decide),QB.int ⟨hc⟩ (by decide)⟩
theorem sof_as (a b c:Int) (A:V3) (e:iv a b c=A) (w:World) (g:Gd w) (ha:a.natAbs<100000) (hb:b.natAbs<100000) (hc:c.natAbs<100000):Calls Tryz.prog 20 #[.int .i64 a,.int .i64 b,.int .i64 c] w (Ret w (.agg #[.string (qs A.x),.string (qs A.y),.string (qs A.z)])):=by
  subst e;exact sof_c a b c w g (by omega) (by omega) (by omega)

set_option maxHeartbeats 2000000 in
theorem vof3_c (a b c:Int) (w:World) (g:Gd w) (ha:a.natAbs<100000) (hb:b.natAbs<100000) (hc:c.natAbs<100000):Calls Tryz.prog 65 #[.int .i64 a,.int .i64 b,.int .i64 c] w (Ret w (.agg #[.string (qs (a:Rat)),.string (qs (b:Rat)),.string (qs (c:Rat))])):=by
  have Ha:=Lib.hid ha
  have Hb:=Lib.hid hb
  have Hc:=Lib.hid hc
  have HG:=Lib.hid g
  clear ha hb hc g
  go_enter Tryz.func65,Tryz.ntmps65
  go_wp2_with fail
  refine (whole_c a (by have:=Ha.out;omega) (by have:=Ha.out;omega) _ (HG.out.ext ((Ext.refl w).alloc _))).mono ?_;rintro e w1 ⟨rfl,e1⟩
  have HX1:Hid (Ext w w1):=Lib.hid (((Ext.refl w).alloc _).trans e1)
  have HB0_1:Hid (Blk w1 (w.heap.size) #[.string ⟨#[]⟩,.string ⟨#[]⟩,.string ⟨#[]⟩] 31):=Lib.hid (Blk.ext (Blk.new' (w:=_) (cs:=#[.string ⟨#[]⟩,.string ⟨#[]⟩,.string ⟨#[]⟩]) (t:=31) (by first|rfl|(simp only [World.size_alloc];done)|(simp only [World.size_alloc];omega)|simp)) e1)
  have HGEB0:Hid (w.heap.size≤w.heap.size):=Lib.hid (by first|omega|(simp only [];omega)|(simp;omega))
  clear e1
  go_wp2_with fail
  refine (whole_c b (by have:=Hb.out;omega) (by have:=Hb.out;omega) _ (HG.out.ext HX1.out)).mono ?_;rintro e w2 ⟨rfl,e2⟩
  have HX2:Hid (Ext w w2):=Lib.hid (HX1.out.trans e2)
  have HB0_2:=Lib.hid (Blk.ext HB0_1.out e2)
  clear e2
  go_wp2_with fail
  refine (whole_c c (by have:=Hc.out;omega) (by have:=Hc.out;omega) _ (HG.out.ext HX2.out)).mono ?_;rintro e w3 ⟨rfl,e3⟩
  have HX3:Hid (Ext w w3):=Lib.hid (HX2.out.trans e3)
  have HB0_3:=Lib.hid (Blk.ext HB0_2.out e3)
  clear e3
  have c0_0:=HB0_3.out.cell 0 rfl
  have f0_0:=HB0_3.out.free 0
  have c0_1:=HB0_3.out.cell 1 rfl
  have f0_1:=HB0_3.out.free 1
  have c0_2:=HB0_3.out.cell 2 rfl
  have f0_2:=HB0_3.out.free 2
  go_wp2_with fail
  refine wp_name (fun W=>Ext w W∧Blk W (w.heap.size) #[.string (qs (a:Rat)),.string (qs (b:Rat)),.string (qs (c:Rat))] 31) ⟨(((HX3.out.setCell (by have:=HGEB0.out;first|omega|(simp only [];omega)|(simp;omega)) _).setCell (by have:=HGEB0.out;first|omega|(simp only [];omega)|(simp;omega)) _).setCell (by have:=HGEB0.out;first|omega|(simp only [];omega)|(simp;omega)) _),(((HB0_3.out.set 0 (.string (qs (a:Rat)))).set 1 (.string (qs (b:Rat)))).set 2 (.string (qs (c:Rat))))⟩ ?_
  rintro w4 ⟨e4,bB0_4⟩
  have HX4:=Lib.hid e4;have HB0_4:=Lib.hid bB0_4
  clear e4 bB0_4 c0_0 f0_0 c0_1 f0_1 c0_2 f0_2
  have gB0_0:=HB0_4.out.cell 0 rfl
  have gB0_1:=HB0_4.out.cell 1 rfl
  have gB0_2:=HB0_4.out.cell 2 rfl
  refine bodyPost_ret (v:=.agg #[.string (qs (a:Rat)),.string (qs (b:Rat)),.string (qs (c:Rat))]) (by simp [results,Tryz.results65,go_sem,gB0_0,gB0_1,gB0_2]) rfl ⟨rfl,HX4.out⟩

theorem vof_as (a b c:Int) (A:V3) (e:iv a b c=A) (w:World) (g:Gd w) (ha:a.natAbs<100000) (hb:b.natAbs<100000) (hc:c.natAbs<100000):Calls Tryz.prog 65 #[.int .i64 a,.int .i64 b,.int .i64 c] w (Ret w (.agg #[.string (qs A.x),.string (qs A.y),.string (qs A.z)])):=by
  subst e;exact vof3_c a b c w g ha hb hc
theorem vPrim_as (A B:V3) (e:vprim A=B) (w:World) (g:Gd w) (ha:VB 5 A) (hz:¬ (A.x=0∧A.y=0∧A.z=0)):Calls Tryz.prog 36 #[.agg #[.string (qs A.x),.string (qs A.y),.string (qs A.z)]] w (Ret w (.tuple #[.agg #[.string (qs B.x),.string (qs B.y),.string (qs B.z)],.int .i64 0])):=by
  subst e
  have h:=prim_plain A hz ha
  exact vPrim_ok A w g (ha.mono (by decide)) hz h.1 h.2.1 h.2.2.1
theorem sdot_v (a b:V3) {k m:Nat} (w:World) (g:Gd w) (ha:VB k a) (hb:VB m b) (hk:k≤700) (hm:m≤700):Calls Tryz.prog 67 #[vv a,vv b] w (Ret w (.string (qs (dot3 a b)))):=by
  have:=sdot_x a b w g ha hb hk hm
  rwa [← Rat.add_assoc] at this

set_option maxHeartbeats 4000000 in
theorem lapply_c (t:Q4) (v:V3) {k:Nat} (w:World) (g:Gd w) (hi:Q4In t) (hz:¬ t.zero) (hv:VB k v) (hk:k≤40):Calls Tryz.prog 34 #[.agg #[.string (qs ((row1 t).x)),.string (qs ((row1 t).y)),.string (qs ((row1 t).z)),.string (qs ((row2 t).x)),.string (qs ((row2 t).y)),.string (qs ((row2 t).z)),.string (qs ((row3 t).x)),.string (qs ((row3 t).y)),.string (qs ((row3 t).z))],.agg #[.string (qs v.x),.string (qs v.y),.string (qs v.z)]] w (Ret w (.agg #[.string (qs ((rot t v).x)),.string (qs ((rot t v).y)),.string (qs ((rot t v).z))])):=by
  have HI:=Lib.hid hi
  have HZ:=Lib.hid hz
  have HV:=Lib.hid hv
  have HG:=Lib.hid g
  clear hi hz hv g
  have HQ1:=Lib.hid (rows_qb HI.out HZ.out).1;have HQ2:=Lib.hid (rows_qb HI.out HZ.out).2.1;have HQ3:=Lib.hid (rows_qb HI.out HZ.out).2.2
  go_enter Tryz.func34,Tryz.ntmps34
  go_wp2_with fail
  refine wp_name (fun W=>Ext w W∧Blk W (w.heap.size) #[.string (qs ((row1 t).x)),.string (qs ((row1 t).y)),.string (qs ((row1 t).z)),.string (qs ((row2 t).x)),.string (qs ((row2 t).y)),.string (qs ((row2 t).z)),.string (qs ((row3 t).x)),.string (qs ((row3 t).y)),.string (qs ((row3 t).z))] 59∧Blk W (w.heap.size+1) #[.string (qs v.x),.string (qs v.y),.string (qs v.z)] 31∧Blk W (w.heap.size+1+1) #[.string ⟨#[]⟩,.string ⟨#[]⟩,.string ⟨#[]⟩] 31) ⟨((((Ext.refl w).alloc _).alloc _).alloc _),(((Blk.new' (w:=_) (cs:=#[.string (qs ((row1 t).x)),.string (qs ((row1 t).y)),.string (qs ((row1 t).z)),.string (qs ((row2 t).x)),.string (qs ((row2 t).y)),.string (qs ((row2 t).z)),.string (qs ((row3 t).x)),.string (qs ((row3 t).y)),.string (qs ((row3 t).z))]) (t:=59) (by first|rfl|(simp only [World.size_alloc];done)|(simp only [World.size_alloc];omega)|simp)).alloc _).alloc _),((Blk.new' (w:=_) (cs:=#[.string (qs v.x),.string (qs v.y),.string (qs v.z)]) (t:=31) (by first|rfl|(simp only [World.size_alloc];done)|(simp only [World.size_alloc];omega)|simp)).alloc _),(Blk.new' (w:=_) (cs:=#[.string ⟨#[]⟩,.string ⟨#[]⟩,.string ⟨#[]⟩]) (t:=31) (by first|rfl|(simp only [World.size_alloc];done)|(simp only [World.size_alloc];omega)|simp))⟩ ?_
  rintro w1 ⟨e1,bB0_1,bB1_1,bB2_1⟩
  have HX1:=Lib.hid e1;have HB0_1:=Lib.hid bB0_1;have HB1_1:=Lib.hid bB1_1;have HB2_1:=Lib.hid bB2_1
  have HGEB0:Hid (w.heap.size≤w.heap.size):=Lib.hid (by first|omega|(simp only [];omega)|(simp;omega))
  have HGEB1:Hid (w.heap.size≤w.heap.size+1):=Lib.hid (by first|omega|(simp only [];omega)|(simp;omega))
  have HGEB2:Hid (w.heap.size≤w.heap.size+1+1):=Lib.hid (by first|omega|(simp only [];omega)|(simp;omega))
  clear e1 bB0_1 bB1_1 bB2_1
  refine region_lin_s (X:=w) [⟨w.heap.size+1+1,#[.string ⟨#[]⟩,.string ⟨#[]⟩,.string ⟨#[]⟩],#[.string (qs ((rot t v).x)),.string (qs ((rot t v).y)),.string (qs ((rot t v).z))],31⟩] [.val (.pointer (some ⟨w.heap.size,0,none⟩)),.val (.agg #[.string (qs ((row1 t).x)),.string (qs ((row1 t).y)),.string (qs ((row1 t).z))]),.val (.agg #[.string (qs v.x),.string (qs v.y),.string (qs v.z)]),.val (.string (qs ((rot t v).x))),.val (.pointer (some ⟨w.heap.size,3,none⟩)),.val (.agg #[.string (qs ((row2 t).x)),.string (qs ((row2 t).y)),.string (qs ((row2 t).z))]),.val (.agg #[.string (qs v.x),.string (qs v.y),.string (qs v.z)]),.val (.string (qs ((rot t v).y))),.val (.pointer (some ⟨w.heap.size,6,none⟩)),.val (.agg #[.string (qs ((row3 t).x)),.string (qs ((row3 t).y)),.string (qs ((row3 t).z))]),.val (.agg #[.string (qs v.x),.string (qs v.y),.string (qs v.z)]),.val (.string (qs ((rot t v).z))),.val (.agg #[.string (qs ((rot t v).x)),.string (qs ((rot t v).y)),.string (qs ((rot t v).z))]),.st 0] (by kernel_rfl) (by kernel_rfl) (by kernel_rfl) HX1.out.drew (List.forall_mem_cons.2 ⟨⟨HGEB2.out,HB2_1.out.drew⟩,(fun _ h=>by cases h)⟩) dis1 ?_ (fun g1 w2 hx_ hk_ hb_ hm_ hne_=>?_)
  · skip
    refine RnL.cons (fun g1 A_ W_ hs_=>?_) ?_
    · have q2_:=(hs_.old 2 (by kernel_rfl):A_.tmps[2]?.getD undef = .pointer (some ⟨w.heap.size,0,none⟩))
      refine Rn.val fun K_ hK_=>?_
      go_simp
      exact hK_.out _ (Ext.refl _)
    refine RnL.cons (fun g1 A_ W_ hs_=>?_) ?_
    · have q5_:=hs_.val 0 rfl rfl rfl
      have cB0_0:=((hs_.keep (fm2 (show w.heap.size+1+1≠w.heap.size from by first|omega|(simp only [];omega)|(simp;omega)) fm0) HB0_1.out.drew)).cell 0 rfl
      have cB0_1:=((hs_.keep (fm2 (show w.heap.size+1+1≠w.heap.size from by first|omega|(simp only [];omega)|(simp;omega)) fm0) HB0_1.out.drew)).cell 1 rfl
      have cB0_2:=((hs_.keep (fm2 (show w.heap.size+1+1≠w.heap.size from by first|omega|(simp only [];omega)|(simp;omega)) fm0) HB0_1.out.drew)).cell 2 rfl
      refine Rn.val fun K_ hK_=>?_
      go_simp
      exact hK_.out _ (Ext.refl _)
    refine RnL.cons (fun g1 A_ W_ hs_=>?_) ?_
    · have q3_:=(hs_.old 3 (by kernel_rfl):A_.tmps[3]?.getD undef = .pointer (some ⟨w.heap.size+1,0,none⟩))
      have cB1_0:=((hs_.keep (fm2 (show w.heap.size+1+1≠w.heap.size+1 from by first|omega|(simp only [];omega)|(simp;omega)) fm0) HB1_1.out.drew)).cell 0 rfl
      have cB1_1:=((hs_.keep (fm2 (show w.heap.size+1+1≠w.heap.size+1 from by first|omega|(simp only [];omega)|(simp;omega)) fm0) HB1_1.out.drew)).cell 1 rfl
      have cB1_2:=((hs_.keep (fm2 (show w.heap.size+1+1≠w.heap.size+1 from by first|omega|(simp only [];omega)|(simp;omega)) fm0) HB1_1.out.drew)).cell 2 rfl
      refine Rn.val fun K_ hK_=>?_
      go_simp
      exact hK_.out _ (Ext.refl _)
    refine RnL.cons (fun g1 A_ W_ hs_=>?_) ?_
    · have q6_:=hs_.val 1 rfl rfl rfl
      have q7_:=hs_.val 2 rfl rfl rfl
      refine Rn.val fun K_ hK_=>?_
      go_simp
      refine ((sdot_v (row1 t) v _ (HG.out.ext hs_.1) HQ1.out HV.out (by omega) (by omega):Calls _ _ _ _ (Ret _ (.string (qs (rot t v).x))))).mono ?_;rintro e W9_ ⟨rfl,e9_⟩;exact hK_.out _ e9_
    refine RnL.cons (fun g1 A_ W_ hs_=>?_) ?_
    · have q2_:=(hs_.old 2 (by kernel_rfl):A_.tmps[2]?.getD undef = .pointer (some ⟨w.heap.size,0,none⟩))
      refine Rn.val fun K_ hK_=>?_
      go_simp
      exact hK_.out _ (Ext.refl _)
    refine RnL.cons (fun g1 A_ W_ hs_=>?_) ?_
    · have q9_:=hs_.val 4 rfl rfl rfl
      have cB0_3:=((hs_.keep (fm2 (show w.heap.size+1+1≠w.heap.size from by first|omega|(simp only [];omega)|(simp;omega)) fm0) HB0_1.out.drew)).cell 3 rfl
      have cB0_4:=((hs_.keep (fm2 (show w.heap.size+1+1≠w.heap.size from by first|omega|(simp only [];omega)|(simp;omega)) fm0) HB0_1.out.drew)).cell 4 rfl
      have cB0_5:=((hs_.keep (fm2 (show w.heap.size+1+1≠w.heap.size from by first|omega|(simp only [];omega)|(simp;omega)) fm0) HB0_1.out.drew)).cell 5 rfl
      refine Rn.val fun K_ hK_=>?_
      go_simp
      exact hK_.out _ (Ext.refl _)
    refine RnL.cons (fun g1 A_ W_ hs_=>?_) ?_
    · have q3_:=(hs_.old 3 (by kernel_rfl):A_.tmps[3]?.getD undef = .pointer (some ⟨w.heap.size+1,0,none⟩))
      have cB1_0:=((hs_.keep (fm2 (show w.heap.size+1+1≠w.heap.size+1 from by first|omega|(simp only [];omega)|(simp;omega)) fm0) HB1_1.out.drew)).cell 0 rfl
      have cB1_1:=((hs_.keep (fm2 (show w.heap.size+1+1≠w.heap.size+1 from by first|omega|(simp only [];omega)|(simp;omega)) fm0) HB1_1.out.drew)).cell 1 rfl
      have cB1_2:=((hs_.keep (fm2 (show w.heap.size+1+1≠w.heap.size+1 from by first|omega|(simp only [];omega)|(simp;omega)) fm0) HB1_1.out.drew)).cell 2 rfl
      refine Rn.val fun K_ hK_=>?_
      go_simp
      exact hK_.out _ (Ext.refl _)
    refine RnL.cons (fun g1 A_ W_ hs_=>?_) ?_
    · have q10_:=hs_.val 5 rfl rfl rfl
      have q11_:=hs_.val 6 rfl rfl rfl
      refine Rn.val fun K_ hK_=>?_
      go_simp
      refine ((sdot_v (row2 t) v _ (HG.out.ext hs_.1) HQ2.out HV.out (by omega) (by omega):Calls _ _ _ _ (Ret _ (.string (qs (rot t v).y))))).mono ?_;rintro e W9_ ⟨rfl,e9_⟩;exact hK_.out _ e9_
    refine RnL.cons (fun g1 A_ W_ hs_=>?_) ?_
    · have q2_:=(hs_.old 2 (by kernel_rfl):A_.tmps[2]?.getD undef = .pointer (some ⟨w.heap.size,0,none⟩))
      refine Rn.val fun K_ hK_=>?_
      go_simp
      exact hK_.out _ (Ext.refl _)
    refine RnL.cons (fun g1 A_ W_ hs_=>?_) ?_
    · have q13_:=hs_.val 8 rfl rfl rfl
      have cB0_6:=((hs_.keep (fm2 (show w.heap.size+1+1≠w.heap.size from by first|omega|(simp only [];omega)|(simp;omega)) fm0) HB0_1.out.drew)).cell 6 rfl
      have cB0_7:=((hs_.keep (fm2 (show w.heap.size+1+1≠w.heap.size from by first|omega|(simp only [];omega)|(simp;omega)) fm0) HB0_1.out.drew)).cell 7 rfl
      have cB0_8:=((hs_.keep (fm2 (show w.heap.size+1+1≠w.heap.size from by first|omega|(simp only [];omega)|(simp;omega)) fm0) HB0_1.out.drew)).cell 8 rfl
      refine Rn.val fun K_ hK_=>?_
      go_simp
      exact hK_.out _ (Ext.refl _)
    refine RnL.cons (fun g1 A_ W_ hs_=>?_) ?_
    · have q3_:=(hs_.old 3 (by kernel_rfl):A_.tmps[3]?.getD undef = .pointer (some ⟨w.heap.size+1,0,none⟩))
      have cB1_0:=((hs_.keep (fm2 (show w.heap.size+1+1≠w.heap.size+1 from by first|omega|(simp only [];omega)|(simp;omega)) fm0) HB1_1.out.drew)).cell 0 rfl
      have cB1_1:=((hs_.keep (fm2 (show w.heap.size+1+1≠w.heap.size+1 from by first|omega|(simp only [];omega)|(simp;omega)) fm0) HB1_1.out.drew)).cell 1 rfl
      have cB1_2:=((hs_.keep (fm2 (show w.heap.size+1+1≠w.heap.size+1 from by first|omega|(simp only [];omega)|(simp;omega)) fm0) HB1_1.out.drew)).cell 2 rfl
      refine Rn.val fun K_ hK_=>?_
      go_simp
      exact hK_.out _ (Ext.refl _)
    refine RnL.cons (fun g1 A_ W_ hs_=>?_) ?_
    · have q14_:=hs_.val 9 rfl rfl rfl
      have q15_:=hs_.val 10 rfl rfl rfl
      refine Rn.val fun K_ hK_=>?_
      go_simp
      refine ((sdot_v (row3 t) v _ (HG.out.ext hs_.1) HQ3.out HV.out (by omega) (by omega):Calls _ _ _ _ (Ret _ (.string (qs (rot t v).z))))).mono ?_;rintro e W9_ ⟨rfl,e9_⟩;exact hK_.out _ e9_
    refine RnL.cons (fun g1 A_ W_ hs_=>?_) ?_
    · have q8_:=hs_.val 3 rfl rfl rfl
      have q12_:=hs_.val 7 rfl rfl rfl
      have q16_:=hs_.val 11 rfl rfl rfl
      refine Rn.val fun K_ hK_=>?_
      go_simp
      exact hK_.out _ (Ext.refl _)
    refine RnL.cons (fun g1 A_ W_ hs_=>?_) ?_
    · have q4_:=(hs_.old 4 (by kernel_rfl):A_.tmps[4]?.getD undef = .pointer (some ⟨w.heap.size+1+1,0,none⟩))
      have q17_:=hs_.val 12 rfl rfl rfl
      refine Rn.st (n:=0) rfl fun hB0 K_ hK_=>?_
      have hB:Blk W_ (w.heap.size+1+1) #[.string ⟨#[]⟩,.string ⟨#[]⟩,.string ⟨#[]⟩] 31:=hB0;clear hB0
      have c_0:=hB.cell 0 rfl;have f_0:=hB.free 0
      have c_1:=hB.cell 1 rfl;have f_1:=hB.free 1
      have c_2:=hB.cell 2 rfl;have f_2:=hB.free 2
      have HB:=Lib.hid hB;clear hB
      go_simp
      exact hK_.out _ ((((Only.refl _ _).set 0 _).set 1 _).set 2 _) (((HB.out.set 0 _).set 1 _).set 2 _)
    exact RnL.nil
  simp only [fs,Kd.value,puts,Act.put,List.setIfInBounds_toArray,List.set_cons_zero,List.set_cons_succ]
  have HX2:Hid (Ext w w2):=Lib.hid hx_
  have HB2_2:Hid (Blk w2 (w.heap.size+1+1) #[.string (qs ((rot t v).x)),.string (qs ((rot t v).y)),.string (qs ((rot t v).z))] 31):=Lib.hid (hb_ 0 _ rfl)
  clear hx_ hm_ hne_ hk_ hb_
  go_wp2_with fail
  have gB2_0:=HB2_2.out.cell 0 rfl
  have gB2_1:=HB2_2.out.cell 1 rfl
  have gB2_2:=HB2_2.out.cell 2 rfl
  refine bodyPost_ret (v:=.agg #[.string (qs ((rot t v).x)),.string (qs ((rot t v).y)),.string (qs ((rot t v).z))]) (by simp [results,Tryz.results34,go_sem,gB2_0,gB2_1,gB2_2]) rfl ⟨rfl,HX2.out⟩

theorem rapply_as (t:Q4) (v r:V3) (e:rot t v=r) {k:Nat} (w:World) (g:Gd w) (hi:Q4In t) (hz:¬ t.zero) (hv:VB k v) (hk:k≤40):Calls Tryz.prog 30 #[.agg #[.int .i64 t.w,.int .i64 t.x,.int .i64 t.y,.int .i64 t.z],.agg #[.string (qs v.x),.string (qs v.y),.string (qs v.z)]] w (Ret w (.tuple #[.agg #[.string (qs r.x),.string (qs r.y),.string (qs r.z)],.int .i64 0])):=by
  subst e;exact rapply_c t v w g hi hz hv hk

theorem rrows_as (t:Q4) (r1 r2 r3:V3) (e1:row1 t=r1) (e2:row2 t=r2) (e3:row3 t=r3) (w:World) (g:Gd w) (hi:Q4In t) (hz:¬ t.zero):Calls Tryz.prog 60 #[.agg #[.int .i64 t.w,.int .i64 t.x,.int .i64 t.y,.int .i64 t.z]] w (Ret w (.agg #[.string (qs r1.x),.string (qs r1.y),.string (qs r1.z),.string (qs r2.x),.string (qs r2.y),.string (qs r2.z),.string (qs r3.x),.string (qs r3.y),.string (qs r3.z)])):=by
  subst e1;subst e2;subst e3;exact rrows_c t w g hi hz
set_option maxHeartbeats 2000000 in
theorem rmat_c (t:Q4) (r1 r2 r3:V3) (e1:row1 t=r1) (e2:row2 t=r2) (e3:row3 t=r3) (w:World) (g:Gd w) (hq:QErr t 0) (hi:Q4In t) (hz:¬ t.zero):Calls Tryz.prog 29 #[.agg #[.int .i64 t.w,.int .i64 t.x,.int .i64 t.y,.int .i64 t.z]] w (Ret w (.tuple #[.agg #[.string (qs r1.x),.string (qs r1.y),.string (qs r1.z),.string (qs r2.x),.string (qs r2.y),.string (qs r2.z),.string (qs r3.x),.string (qs r3.y),.string (qs r3.z)],.int .i64 0])):=by
  have HR1:=Lib.hid e1
  have HR2:=Lib.hid e2
  have HR3:=Lib.hid e3
  have HE:=Lib.hid hq
  have HI:=Lib.hid hi
  have HZ:=Lib.hid hz
  have HG:=Lib.hid g
  clear e1 e2 e3 hq hi hz g
  go_enter Tryz.func29,Tryz.ntmps29
  go_wp2_with fail
  refine (rchk_l _ (HG.out.ext (((Ext.refl w).alloc _).alloc _)) HE.out).mono ?_;rintro e w1 ⟨rfl,e1⟩
  have HX1:Hid (Ext w w1):=Lib.hid ((((Ext.refl w).alloc _).alloc _).trans e1)
  have HB0_1:Hid (Blk w1 (w.heap.size) #[.int .i64 t.w,.int .i64 t.x,.int .i64 t.y,.int .i64 t.z] 22):=Lib.hid (Blk.ext ((Blk.new' (w:=_) (cs:=#[.int .i64 t.w,.int .i64 t.x,.int .i64 t.y,.int .i64 t.z]) (t:=22) (by first|rfl|(simp only [World.size_alloc];done)|(simp only [World.size_alloc];omega)|simp)).alloc _) e1)
  have HB1_1:Hid (Blk w1 (w.heap.size+1) #[.string ⟨#[]⟩,.string ⟨#[]⟩,.string ⟨#[]⟩,.string ⟨#[]⟩,.string ⟨#[]⟩,.string ⟨#[]⟩,.string ⟨#[]⟩,.string ⟨#[]⟩,.string ⟨#[]⟩] 59):=Lib.hid (Blk.ext (Blk.new' (w:=_) (cs:=#[.string ⟨#[]⟩,.string ⟨#[]⟩,.string ⟨#[]⟩,.string ⟨#[]⟩,.string ⟨#[]⟩,.string ⟨#[]⟩,.string ⟨#[]⟩,.string ⟨#[]⟩,.string ⟨#[]⟩]) (t:=59) (by first|rfl|(simp only [World.size_alloc];done)|(simp only [World.size_alloc];omega)|simp)) e1)
  have HGEB0:Hid (w.heap.size≤w.heap.size):=Lib.hid (by first|omega|(simp only [];omega)|(simp;omega))
  have HGEB1:Hid (w.heap.size≤w.heap.size+1):=Lib.hid (by first|omega|(simp only [];omega)|(simp;omega))
  clear e1
  have c0_0:=HB0_1.out.cell 0 rfl
  have c0_1:=HB0_1.out.cell 1 rfl
  have c0_2:=HB0_1.out.cell 2 rfl
  have c0_3:=HB0_1.out.cell 3 rfl
  go_wp2_with fail
  refine (rrows_as t r1 r2 r3 HR1.out HR2.out HR3.out _ (HG.out.ext HX1.out) HI.out HZ.out).mono ?_;rintro e w2 ⟨rfl,e2⟩
  have HX2:Hid (Ext w w2):=Lib.hid (HX1.out.trans e2)
  have HB1_2:=Lib.hid (Blk.ext HB1_1.out e2)
  clear e2 c0_0 c0_1 c0_2 c0_3
  have c1_0:=HB1_2.out.cell 0 rfl
  have f1_0:=HB1_2.out.free 0
  have c1_1:=HB1_2.out.cell 1 rfl
  have f1_1:=HB1_2.out.free 1
  have c1_2:=HB1_2.out.cell 2 rfl
  have f1_2:=HB1_2.out.free 2
  have c1_3:=HB1_2.out.cell 3 rfl
  have f1_3:=HB1_2.out.free 3
  have c1_4:=HB1_2.out.cell 4 rfl
  have f1_4:=HB1_2.out.free 4
  have c1_5:=HB1_2.out.cell 5 rfl
  have f1_5:=HB1_2.out.free 5
  have c1_6:=HB1_2.out.cell 6 rfl
  have f1_6:=HB1_2.out.free 6
  have c1_7:=HB1_2.out.cell 7 rfl
  have f1_7:=HB1_2.out.free 7
  have c1_8:=HB1_2.out.cell 8 rfl
  have f1_8:=HB1_2.out.free 8
  go_wp2_with fail
  refine wp_name (fun W=>Ext w W∧Blk W (w.heap.size+1) #[.string (qs r1.x),.string (qs r1.y),.string (qs r1.z),.string (qs r2.x),.string (qs r2.y),.string (qs r2.z),.string (qs r3.x),.string (qs r3.y),.string (qs r3.z)] 59) ⟨(((((((((HX2.out.setCell (by have:=HGEB1.out;first|omega|(simp only [];omega)|(simp;omega)) _).setCell (by have:=HGEB1.out;first|omega|(simp only [];omega)|(simp;omega)) _).setCell (by have:=HGEB1.out;first|omega|(simp only [];omega)|(simp;omega)) _).setCell (by have:=HGEB1.out;first|omega|(simp only [];omega)|(simp;omega)) _).setCell (by have:=HGEB1.out;first|omega|(simp only [];omega)|(simp;omega)) _).setCell (by have:=HGEB1.out;first|omega|(simp only [];omega)|(simp;omega)) _).setCell (by have:=HGEB1.out;first|omega|(simp only [];omega)|(simp;omega)) _).setCell (by have:=HGEB1.out;first|omega|(simp only [];omega)|(simp;omega)) _).setCell (by have:=HGEB1.out;first|omega|(simp only [];omega)|(simp;omega)) _),(Blk.cast (((((((((HB1_2.out.set 0 (.string (qs r1.x))).set 1 (.string (qs r1.y))).set 2 (.string (qs r1.z))).set 3 (.string (qs r2.x))).set 4 (.string (qs r2.y))).set 5 (.string (qs r2.z))).set 6 (.string (qs r3.x))).set 7 (.string (qs r3.y))).set 8 (.string (qs r3.z))) (by simp only [List.setIfInBounds_toArray,List.set_cons_zero,List.set_cons_succ]))⟩ ?_
  rintro w3 ⟨e3,bB1_3⟩
  have HX3:=Lib.hid e3;have HB1_3:=Lib.hid bB1_3
  clear e3 bB1_3 c1_0 f1_0 c1_1 f1_1 c1_2 f1_2 c1_3 f1_3 c1_4 f1_4 c1_5 f1_5 c1_6 f1_6 c1_7 f1_7 c1_8 f1_8
  have gB1_0:=HB1_3.out.cell 0 rfl
  have gB1_1:=HB1_3.out.cell 1 rfl
  have gB1_2:=HB1_3.out.cell 2 rfl
  have gB1_3:=HB1_3.out.cell 3 rfl
  have gB1_4:=HB1_3.out.cell 4 rfl
  have gB1_5:=HB1_3.out.cell 5 rfl
  have gB1_6:=HB1_3.out.cell 6 rfl
  have gB1_7:=HB1_3.out.cell 7 rfl
  have gB1_8:=HB1_3.out.cell 8 rfl
  refine bodyPost_ret (v:=.tuple #[.agg #[.string (qs r1.x),.string (qs r1.y),.string (qs r1.z),.string (qs r2.x),.string (qs r2.y),.string (qs r2.z),.string (qs r3.x),.string (qs r3.y),.string (qs r3.z)],.int .i64 0]) (by simp [results,Tryz.results29,go_sem,gB1_0,gB1_1,gB1_2,gB1_3,gB1_4,gB1_5,gB1_6,gB1_7,gB1_8]) rfl ⟨rfl,HX3.out⟩

theorem rturned_as (t:Q4) (v r:V3) (e:rot t v=r) {k:Nat} (w:World) (g:Gd w) (hi:Q4In t) (hz:¬ t.zero) (hv:VB k v) (hk:k≤40):Calls Tryz.prog 63 #[.agg #[.int .i64 t.w,.int .i64 t.x,.int .i64 t.y,.int .i64 t.z],.agg #[.string (qs v.x),.string (qs v.y),.string (qs v.z)]] w (Ret w (.agg #[.string (qs r.x),.string (qs r.y),.string (qs r.z)])):=by
  subst e;exact rturned_c t v w g hi hz hv hk
theorem rsub_as (a b c:Rat) (e:a-b=c) {k m:Nat} (w:World) (g:Gd w) (ha:QB k a) (hb:QB m b) (hk:k≤200) (hm:m≤200):Calls Tryz.prog 64 #[.string (qs a),.string (qs b)] w (Ret w (.string (qs c))):=by
  subst e;exact rsub_c a b w g ha hb (by omega) (by omega)
def sub3 (a b:V3):V3:=⟨a.x-b.x,a.y-b.y,a.z-b.z⟩
theorem sub3_eq {a b c:V3} (e:sub3 a b=c):a.x-b.x=c.x∧a.y-b.y=c.y∧a.z-b.z=c.z:=by subst e;exact ⟨rfl,rfl,rfl⟩
theorem sub3_vb {a b:V3} {k m:Nat} (ha:VB k a) (hb:VB m b):VB (k+m+1) (sub3 a b):=⟨ha.x.sub hb.x,ha.y.sub hb.y,ha.z.sub hb.z⟩

set_option maxHeartbeats 4000000 in
theorem rabout_c (t:Q4) (v R S r1 r2 r3:V3) (eR:rot t v=R) (eS:sub3 v R=S) (e1:row1 t=r1) (e2:row2 t=r2) (e3:row3 t=r3) {k:Nat} (w:World) (g:Gd w) (hi:Q4In t) (hz:¬ t.zero) (hv:VB k v) (hk:k≤30):Calls Tryz.prog 31 #[.agg #[.int .i64 t.w,.int .i64 t.x,.int .i64 t.y,.int .i64 t.z],.agg #[.string (qs v.x),.string (qs v.y),.string (qs v.z)]] w (Ret w (.tuple #[.agg #[.string (qs r1.x),.string (qs r1.y),.string (qs r1.z),.string (qs r2.x),.string (qs r2.y),.string (qs r2.z),.string (qs r3.x),.string (qs r3.y),.string (qs r3.z),.string (qs S.x),.string (qs S.y),.string (qs S.z)],.int .i64 0])):=by
  have HRE:=Lib.hid eR
  have HSE:=Lib.hid eS
  have HR1:=Lib.hid e1
  have HR2:=Lib.hid e2
  have HR3:=Lib.hid e3
  have HI:=Lib.hid hi
  have HZ:=Lib.hid hz
  have HV:=Lib.hid hv
  have HG:=Lib.hid g
  clear eR eS e1 e2 e3 hi hz hv g
  have HRV:=Lib.hid (HRE.out▸rot_qb HI.out HZ.out HV.out:VB (3*(13+k)+4) R)
  have HSS:=Lib.hid (sub3_eq HSE.out)
  have HSH:Hid (VB 200 S):=Lib.hid ((HSE.out▸sub3_vb HV.out HRV.out:VB (k+(3*(13+k)+4)+1) S).mono (by omega))
  go_enter Tryz.func31,Tryz.ntmps31
  go_wp2_with fail
  refine (rboth_ok t v _ (HG.out.ext ((((Ext.refl w).alloc _).alloc _).alloc _)) (.ok HI.out HZ.out) (HV.out.mono (by omega))).mono ?_;rintro e w1 ⟨rfl,e1⟩
  have HX1:Hid (Ext w w1):=Lib.hid (((((Ext.refl w).alloc _).alloc _).alloc _).trans e1)
  have HB0_1:Hid (Blk w1 (w.heap.size) #[.int .i64 t.w,.int .i64 t.x,.int .i64 t.y,.int .i64 t.z] 22):=Lib.hid (Blk.ext (((Blk.new' (w:=_) (cs:=#[.int .i64 t.w,.int .i64 t.x,.int .i64 t.y,.int .i64 t.z]) (t:=22) (by first|rfl|(simp only [World.size_alloc];done)|(simp only [World.size_alloc];omega)|simp)).alloc _).alloc _) e1)
  have HB1_1:Hid (Blk w1 (w.heap.size+1) #[.string (qs v.x),.string (qs v.y),.string (qs v.z)] 31):=Lib.hid (Blk.ext ((Blk.new' (w:=_) (cs:=#[.string (qs v.x),.string (qs v.y),.string (qs v.z)]) (t:=31) (by first|rfl|(simp only [World.size_alloc];done)|(simp only [World.size_alloc];omega)|simp)).alloc _) e1)
  have HB2_1:Hid (Blk w1 (w.heap.size+1+1) #[.string ⟨#[]⟩,.string ⟨#[]⟩,.string ⟨#[]⟩,.string ⟨#[]⟩,.string ⟨#[]⟩,.string ⟨#[]⟩,.string ⟨#[]⟩,.string ⟨#[]⟩,.string ⟨#[]⟩,.string ⟨#[]⟩,.string ⟨#[]⟩,.string ⟨#[]⟩] 66):=Lib.hid (Blk.ext (Blk.new' (w:=_) (cs:=#[.string ⟨#[]⟩,.string ⟨#[]⟩,.string ⟨#[]⟩,.string ⟨#[]⟩,.string ⟨#[]⟩,.string ⟨#[]⟩,.string ⟨#[]⟩,.string ⟨#[]⟩,.string ⟨#[]⟩,.string ⟨#[]⟩,.string ⟨#[]⟩,.string ⟨#[]⟩]) (t:=66) (by first|rfl|(simp only [World.size_alloc];done)|(simp only [World.size_alloc];omega)|simp)) e1)
  have HGEB0:Hid (w.heap.size≤w.heap.size):=Lib.hid (by first|omega|(simp only [];omega)|(simp;omega))
  have HGEB1:Hid (w.heap.size≤w.heap.size+1):=Lib.hid (by first|omega|(simp only [];omega)|(simp;omega))
  have HGEB2:Hid (w.heap.size≤w.heap.size+1+1):=Lib.hid (by first|omega|(simp only [];omega)|(simp;omega))
  clear e1
  have c0_0:=HB0_1.out.cell 0 rfl
  have c0_1:=HB0_1.out.cell 1 rfl
  have c0_2:=HB0_1.out.cell 2 rfl
  have c0_3:=HB0_1.out.cell 3 rfl
  have c1_0:=HB1_1.out.cell 0 rfl
  have c1_1:=HB1_1.out.cell 1 rfl
  have c1_2:=HB1_1.out.cell 2 rfl
  go_wp2_with fail
  refine (rturned_as t v R HRE.out _ (HG.out.ext HX1.out) HI.out HZ.out HV.out (by omega)).mono ?_;rintro e w2 ⟨rfl,e2⟩
  have HX2:Hid (Ext w w2):=Lib.hid (HX1.out.trans e2)
  have HB0_2:=Lib.hid (Blk.ext HB0_1.out e2)
  have HB1_2:=Lib.hid (Blk.ext HB1_1.out e2)
  have HB2_2:=Lib.hid (Blk.ext HB2_1.out e2)
  clear e2 c0_0 c0_1 c0_2 c0_3 c1_0 c1_1 c1_2
  go_wp2_with fail
  refine wp_name (fun W=>Ext w W∧Blk W (w.heap.size) #[.int .i64 t.w,.int .i64 t.x,.int .i64 t.y,.int .i64 t.z] 22∧Blk W (w.heap.size+1) #[.string (qs v.x),.string (qs v.y),.string (qs v.z)] 31∧Blk W (w.heap.size+1+1) #[.string ⟨#[]⟩,.string ⟨#[]⟩,.string ⟨#[]⟩,.string ⟨#[]⟩,.string ⟨#[]⟩,.string ⟨#[]⟩,.string ⟨#[]⟩,.string ⟨#[]⟩,.string ⟨#[]⟩,.string ⟨#[]⟩,.string ⟨#[]⟩,.string ⟨#[]⟩] 66∧Blk W (w2.heap.size) #[.string (qs R.x),.string (qs R.y),.string (qs R.z)] 31) ⟨(HX2.out.alloc _),(HB0_2.out.alloc _),(HB1_2.out.alloc _),(HB2_2.out.alloc _),(Blk.new' (w:=_) (cs:=#[.string (qs R.x),.string (qs R.y),.string (qs R.z)]) (t:=31) (by first|rfl|(simp only [World.size_alloc];done)|(simp only [World.size_alloc];omega)|simp))⟩ ?_
  rintro w3 ⟨e3,bB0_3,bB1_3,bB2_3,bB3_3⟩
  have HX3:=Lib.hid e3;have HB0_3:=Lib.hid bB0_3;have HB1_3:=Lib.hid bB1_3;have HB2_3:=Lib.hid bB2_3;have HB3_3:=Lib.hid bB3_3
  have HGEB3:Hid (w.heap.size≤w2.heap.size):=Lib.hid (by have:=HX2.out.size;first|omega|(simp only [];omega)|(simp;omega))
  clear e3 bB0_3 bB1_3 bB2_3 bB3_3
  refine region_lin [.val (.pointer (some ⟨w.heap.size+1,0,none⟩)),.val (.string (qs v.x)),.val (.pointer (some ⟨w2.heap.size,0,none⟩)),.val (.string (qs R.x)),.val (.string (qs S.x)),.val (.pointer (some ⟨w.heap.size+1,1,none⟩)),.val (.string (qs v.y)),.val (.pointer (some ⟨w2.heap.size,1,none⟩)),.val (.string (qs R.y)),.val (.string (qs S.y)),.val (.pointer (some ⟨w.heap.size+1,2,none⟩)),.val (.string (qs v.z)),.val (.pointer (some ⟨w2.heap.size,2,none⟩)),.val (.string (qs R.z)),.val (.string (qs S.z)),.val (.agg #[.string (qs S.x),.string (qs S.y),.string (qs S.z)]),.val (.tuple #[.agg #[.string (qs S.x),.string (qs S.y),.string (qs S.z)],.int .i64 0]),.val (.tuple #[.agg #[.string (qs S.x),.string (qs S.y),.string (qs S.z)],.int .i64 0]),.val (.agg #[.string (qs S.x),.string (qs S.y),.string (qs S.z)]),.val (.int .i64 0),.mem (fun b_ => .pointer (some ⟨b_,0,none⟩)) #[.string ⟨#[]⟩,.string ⟨#[]⟩,.string ⟨#[]⟩] 31 (Option.some 21),.put 20 #[.string (qs S.x),.string (qs S.y),.string (qs S.z)],.val (.int .i64 0)] (by kernel_rfl) (by kernel_rfl) (by kernel_rfl) ?_ (fun g3 w4 hx_ hm_ hne_=>?_)
  · skip
    refine RnL.cons (fun g3 A_ W_ hs_=>?_) ?_
    · have q3_:=(hs_.old 3 (by kernel_rfl):A_.tmps[3]?.getD undef = .pointer (some ⟨w.heap.size+1,0,none⟩))
      refine Rn.val fun K_ hK_=>?_
      go_simp
      exact hK_.out _ (Ext.refl _)
    refine RnL.cons (fun g3 A_ W_ hs_=>?_) ?_
    · have q21_:=hs_.val 0 rfl rfl rfl
      have cB1_0:=((HB1_3.out.drew.ext hs_.1)).cell 0 rfl
      refine Rn.val fun K_ hK_=>?_
      go_simp
      exact hK_.out _ (Ext.refl _)
    refine RnL.cons (fun g3 A_ W_ hs_=>?_) ?_
    · have q7_:=(hs_.old 7 (by kernel_rfl):A_.tmps[7]?.getD undef = .pointer (some ⟨w2.heap.size,0,none⟩))
      refine Rn.val fun K_ hK_=>?_
      go_simp
      exact hK_.out _ (Ext.refl _)
    refine RnL.cons (fun g3 A_ W_ hs_=>?_) ?_
    · have q23_:=hs_.val 2 rfl rfl rfl
      have cB3_0:=((HB3_3.out.drew.ext hs_.1)).cell 0 rfl
      refine Rn.val fun K_ hK_=>?_
      go_simp
      exact hK_.out _ (Ext.refl _)
    refine RnL.cons (fun g3 A_ W_ hs_=>?_) ?_
    · have q22_:=hs_.val 1 rfl rfl rfl
      have q24_:=hs_.val 3 rfl rfl rfl
      refine Rn.val fun K_ hK_=>?_
      go_simp
      refine (rsub_as v.x R.x S.x HSS.out.1 _ (HG.out.ext (HX3.out.drew.trans hs_.1)) HV.out.x HRV.out.x (by omega) (by omega)).mono ?_;rintro e W9_ ⟨rfl,e9_⟩;exact hK_.out _ e9_
    refine RnL.cons (fun g3 A_ W_ hs_=>?_) ?_
    · have q3_:=(hs_.old 3 (by kernel_rfl):A_.tmps[3]?.getD undef = .pointer (some ⟨w.heap.size+1,0,none⟩))
      refine Rn.val fun K_ hK_=>?_
      go_simp
      exact hK_.out _ (Ext.refl _)
    refine RnL.cons (fun g3 A_ W_ hs_=>?_) ?_
    · have q26_:=hs_.val 5 rfl rfl rfl
      have cB1_1:=((HB1_3.out.drew.ext hs_.1)).cell 1 rfl
      refine Rn.val fun K_ hK_=>?_
      go_simp
      exact hK_.out _ (Ext.refl _)
    refine RnL.cons (fun g3 A_ W_ hs_=>?_) ?_
    · have q7_:=(hs_.old 7 (by kernel_rfl):A_.tmps[7]?.getD undef = .pointer (some ⟨w2.heap.size,0,none⟩))
      refine Rn.val fun K_ hK_=>?_
      go_simp
      exact hK_.out _ (Ext.refl _)
    refine RnL.cons (fun g3 A_ W_ hs_=>?_) ?_
    · have q28_:=hs_.val 7 rfl rfl rfl
      have cB3_1:=((HB3_3.out.drew.ext hs_.1)).cell 1 rfl
      refine Rn.val fun K_ hK_=>?_
      go_simp
      exact hK_.out _ (Ext.refl _)
    refine RnL.cons (fun g3 A_ W_ hs_=>?_) ?_
    · have q27_:=hs_.val 6 rfl rfl rfl
      have q29_:=hs_.val 8 rfl rfl rfl
      refine Rn.val fun K_ hK_=>?_
      go_simp
      refine (rsub_as v.y R.y S.y HSS.out.2.1 _ (HG.out.ext (HX3.out.drew.trans hs_.1)) HV.out.y HRV.out.y (by omega) (by omega)).mono ?_;rintro e W9_ ⟨rfl,e9_⟩;exact hK_.out _ e9_
    refine RnL.cons (fun g3 A_ W_ hs_=>?_) ?_
    · have q3_:=(hs_.old 3 (by kernel_rfl):A_.tmps[3]?.getD undef = .pointer (some ⟨w.heap.size+1,0,none⟩))
      refine Rn.val fun K_ hK_=>?_
      go_simp
      exact hK_.out _ (Ext.refl _)
    refine RnL.cons (fun g3 A_ W_ hs_=>?_) ?_
    · have q31_:=hs_.val 10 rfl rfl rfl
      have cB1_2:=((HB1_3.out.drew.ext hs_.1)).cell 2 rfl
      refine Rn.val fun K_ hK_=>?_
      go_simp
      exact hK_.out _ (Ext.refl _)
    refine RnL.cons (fun g3 A_ W_ hs_=>?_) ?_
    · have q7_:=(hs_.old 7 (by kernel_rfl):A_.tmps[7]?.getD undef = .pointer (some ⟨w2.heap.size,0,none⟩))
      refine Rn.val fun K_ hK_=>?_
      go_simp
      exact hK_.out _ (Ext.refl _)
    refine RnL.cons (fun g3 A_ W_ hs_=>?_) ?_
    · have q33_:=hs_.val 12 rfl rfl rfl
      have cB3_2:=((HB3_3.out.drew.ext hs_.1)).cell 2 rfl
      refine Rn.val fun K_ hK_=>?_
      go_simp
      exact hK_.out _ (Ext.refl _)
    refine RnL.cons (fun g3 A_ W_ hs_=>?_) ?_
    · have q32_:=hs_.val 11 rfl rfl rfl
      have q34_:=hs_.val 13 rfl rfl rfl
      refine Rn.val fun K_ hK_=>?_
      go_simp
      refine (rsub_as v.z R.z S.z HSS.out.2.2 _ (HG.out.ext (HX3.out.drew.trans hs_.1)) HV.out.z HRV.out.z (by omega) (by omega)).mono ?_;rintro e W9_ ⟨rfl,e9_⟩;exact hK_.out _ e9_
    refine RnL.cons (fun g3 A_ W_ hs_=>?_) ?_
    · have q25_:=hs_.val 4 rfl rfl rfl
      have q30_:=hs_.val 9 rfl rfl rfl
      have q35_:=hs_.val 14 rfl rfl rfl
      refine Rn.val fun K_ hK_=>?_
      go_simp
      exact hK_.out _ (Ext.refl _)
    refine RnL.cons (fun g3 A_ W_ hs_=>?_) ?_
    · have q36_:=hs_.val 15 rfl rfl rfl
      refine Rn.val fun K_ hK_=>?_
      go_simp
      refine (rres_ok S _ (HG.out.ext (HX3.out.drew.trans hs_.1)) HSH.out).mono ?_;rintro e W9_ ⟨rfl,e9_⟩;exact hK_.out _ e9_
    refine RnL.cons (fun g3 A_ W_ hs_=>?_) ?_
    · have q37_:=hs_.val 16 rfl rfl rfl
      refine Rn.val fun K_ hK_=>?_
      go_simp
      exact hK_.out _ (Ext.refl _)
    refine RnL.cons (fun g3 A_ W_ hs_=>?_) ?_
    · have q20_:=hs_.val 17 rfl rfl rfl
      refine Rn.val fun K_ hK_=>?_
      go_simp
      exact hK_.out _ (Ext.refl _)
    refine RnL.cons (fun g3 A_ W_ hs_=>?_) ?_
    · have q20_:=hs_.val 17 rfl rfl rfl
      refine Rn.val fun K_ hK_=>?_
      go_simp
      exact hK_.out _ (Ext.refl _)
    refine RnL.cons (fun g3 A_ W_ hs_=>?_) ?_
    · refine Rn.mem fun K_ hK_=>?_
      go_simp
      exact hK_.out
    refine RnL.cons (fun g3 A_ W_ hs_=>?_) ?_
    · have q8_:=(hs_.mem 20 rfl rfl rfl).1
      have q38_:=hs_.val 18 rfl rfl rfl
      refine Rn.put (z:=#[.string ⟨#[]⟩,.string ⟨#[]⟩,.string ⟨#[]⟩]) (t:=31) rfl fun hB K_ hK_=>?_
      have c_0:=hB.cell 0 rfl;have f_0:=hB.free 0
      have c_1:=hB.cell 1 rfl;have f_1:=hB.free 1
      have c_2:=hB.cell 2 rfl;have f_2:=hB.free 2
      have HB:=Lib.hid hB;clear hB
      go_simp
      exact hK_.out _ ((((Only.refl _ _).set 0 _).set 1 _).set 2 _) (((HB.out.set 0 _).set 1 _).set 2 _)
    refine RnL.cons (fun g3 A_ W_ hs_=>?_) ?_
    · have q39_:=hs_.val 19 rfl rfl rfl
      refine Rn.val fun K_ hK_=>?_
      go_simp
      exact hK_.out _ (Ext.refl _)
    exact RnL.nil
  simp only [fs,Kd.value,puts,Act.put,List.setIfInBounds_toArray,List.set_cons_zero,List.set_cons_succ,Nat.reduceAdd]
  have HX4:Hid (Ext w w4):=Lib.hid (HX3.out.drew.trans hx_)
  have HB0_4:=Lib.hid (HB0_3.out.drew.ext hx_)
  have HB2_4:=Lib.hid (HB2_3.out.drew.ext hx_)
  have HB4_4:Hid (Blk w4 (g3 20) #[.string (qs S.x),.string (qs S.y),.string (qs S.z)] 31):=Lib.hid (hm_ 20 _ _ _ _ rfl).2;have HGEB4:Hid (w.heap.size≤g3 20):=Lib.hid (Nat.le_trans HX3.out.size (hm_ 20 _ _ _ _ rfl).1)
  have HNEB0B4:Hid (w.heap.size≠g3 20):=Lib.hid (Nat.ne_of_lt (Nat.lt_of_lt_of_le HB0_3.out.lt (hm_ 20 _ _ _ _ rfl).1))
  have HNEB2B4:Hid (w.heap.size+1+1≠g3 20):=Lib.hid (Nat.ne_of_lt (Nat.lt_of_lt_of_le HB2_3.out.lt (hm_ 20 _ _ _ _ rfl).1))
  clear hx_ hm_ hne_
  generalize g3 20=i4 at *
  clear g3
  go_wp2_with fail
  refine wp_name (fun W=>Ext w W∧Blk W (w.heap.size) #[.int .i64 t.w,.int .i64 t.x,.int .i64 t.y,.int .i64 t.z] 22∧Blk W (w.heap.size+1+1) #[.string ⟨#[]⟩,.string ⟨#[]⟩,.string ⟨#[]⟩,.string ⟨#[]⟩,.string ⟨#[]⟩,.string ⟨#[]⟩,.string ⟨#[]⟩,.string ⟨#[]⟩,.string ⟨#[]⟩,.string ⟨#[]⟩,.string ⟨#[]⟩,.string ⟨#[]⟩] 66∧Blk W (i4) #[.string (qs S.x),.string (qs S.y),.string (qs S.z)] 31) ⟨HX4.out,HB0_4.out,HB2_4.out,HB4_4.out⟩ ?_
  rintro w5 ⟨e5,bB0_5,bB2_5,bB4_5⟩
  have HX5:=Lib.hid e5;have HB0_5:=Lib.hid bB0_5;have HB2_5:=Lib.hid bB2_5;have HB4_5:=Lib.hid bB4_5
  clear e5 bB0_5 bB2_5 bB4_5
  refine region_lin_s (X:=w) [⟨w.heap.size+1+1,#[.string ⟨#[]⟩,.string ⟨#[]⟩,.string ⟨#[]⟩,.string ⟨#[]⟩,.string ⟨#[]⟩,.string ⟨#[]⟩,.string ⟨#[]⟩,.string ⟨#[]⟩,.string ⟨#[]⟩,.string ⟨#[]⟩,.string ⟨#[]⟩,.string ⟨#[]⟩],#[.string (qs r1.x),.string (qs r1.y),.string (qs r1.z),.string (qs r2.x),.string (qs r2.y),.string (qs r2.z),.string (qs r3.x),.string (qs r3.y),.string (qs r3.z),.string (qs S.x),.string (qs S.y),.string (qs S.z)],66⟩] [.val (.agg #[.int .i64 t.w,.int .i64 t.x,.int .i64 t.y,.int .i64 t.z]),.val (.agg #[.string (qs r1.x),.string (qs r1.y),.string (qs r1.z),.string (qs r2.x),.string (qs r2.y),.string (qs r2.z),.string (qs r3.x),.string (qs r3.y),.string (qs r3.z)]),.val (.agg #[.string (qs S.x),.string (qs S.y),.string (qs S.z)]),.val (.agg #[.string (qs r1.x),.string (qs r1.y),.string (qs r1.z),.string (qs r2.x),.string (qs r2.y),.string (qs r2.z),.string (qs r3.x),.string (qs r3.y),.string (qs r3.z),.string (qs S.x),.string (qs S.y),.string (qs S.z)]),.st 0,.val (.int .i64 0)] (by kernel_rfl) (by kernel_rfl) (by kernel_rfl) HX5.out.drew (List.forall_mem_cons.2 ⟨⟨HGEB2.out,HB2_5.out.drew⟩,(fun _ h=>by cases h)⟩) dis1 ?_ (fun g5 w6 hx_ hk_ hb_ hm_ hne_=>?_)
  · skip
    refine RnL.cons (fun g5 A_ W_ hs_=>?_) ?_
    · have q2_:=(hs_.old 2 (by kernel_rfl):A_.tmps[2]?.getD undef = .pointer (some ⟨w.heap.size,0,none⟩))
      have cB0_0:=((hs_.keep (fm2 (show w.heap.size+1+1≠w.heap.size from by first|omega|(simp only [];omega)|(simp;omega)) fm0) HB0_5.out.drew)).cell 0 rfl
      have cB0_1:=((hs_.keep (fm2 (show w.heap.size+1+1≠w.heap.size from by first|omega|(simp only [];omega)|(simp;omega)) fm0) HB0_5.out.drew)).cell 1 rfl
      have cB0_2:=((hs_.keep (fm2 (show w.heap.size+1+1≠w.heap.size from by first|omega|(simp only [];omega)|(simp;omega)) fm0) HB0_5.out.drew)).cell 2 rfl
      have cB0_3:=((hs_.keep (fm2 (show w.heap.size+1+1≠w.heap.size from by first|omega|(simp only [];omega)|(simp;omega)) fm0) HB0_5.out.drew)).cell 3 rfl
      refine Rn.val fun K_ hK_=>?_
      go_simp
      exact hK_.out _ (Ext.refl _)
    refine RnL.cons (fun g5 A_ W_ hs_=>?_) ?_
    · have q44_:=hs_.val 0 rfl rfl rfl
      refine Rn.val fun K_ hK_=>?_
      go_simp
      refine (rrows_as t r1 r2 r3 HR1.out HR2.out HR3.out _ (HG.out.ext hs_.1) HI.out HZ.out).mono ?_;rintro e W9_ ⟨rfl,e9_⟩;exact hK_.out _ e9_
    refine RnL.cons (fun g5 A_ W_ hs_=>?_) ?_
    · have q8_:=(hs_.old 8 (by kernel_rfl):A_.tmps[8]?.getD undef = .pointer (some ⟨i4,0,none⟩))
      have cB4_0:=((hs_.keep (fm2 (show w.heap.size+1+1≠i4 from HNEB2B4.out) fm0) HB4_5.out.drew)).cell 0 rfl
      have cB4_1:=((hs_.keep (fm2 (show w.heap.size+1+1≠i4 from HNEB2B4.out) fm0) HB4_5.out.drew)).cell 1 rfl
      have cB4_2:=((hs_.keep (fm2 (show w.heap.size+1+1≠i4 from HNEB2B4.out) fm0) HB4_5.out.drew)).cell 2 rfl
      refine Rn.val fun K_ hK_=>?_
      go_simp
      exact hK_.out _ (Ext.refl _)
    refine RnL.cons (fun g5 A_ W_ hs_=>?_) ?_
    · have q45_:=hs_.val 1 rfl rfl rfl
      have q46_:=hs_.val 2 rfl rfl rfl
      refine Rn.val fun K_ hK_=>?_
      go_simp
      exact hK_.out _ (Ext.refl _)
    refine RnL.cons (fun g5 A_ W_ hs_=>?_) ?_
    · have q4_:=(hs_.old 4 (by kernel_rfl):A_.tmps[4]?.getD undef = .pointer (some ⟨w.heap.size+1+1,0,none⟩))
      have q47_:=hs_.val 3 rfl rfl rfl
      refine Rn.st (n:=0) rfl fun hB0 K_ hK_=>?_
      have hB:Blk W_ (w.heap.size+1+1) #[.string ⟨#[]⟩,.string ⟨#[]⟩,.string ⟨#[]⟩,.string ⟨#[]⟩,.string ⟨#[]⟩,.string ⟨#[]⟩,.string ⟨#[]⟩,.string ⟨#[]⟩,.string ⟨#[]⟩,.string ⟨#[]⟩,.string ⟨#[]⟩,.string ⟨#[]⟩] 66:=hB0;clear hB0
      have c_0:=hB.cell 0 rfl;have f_0:=hB.free 0
      have c_1:=hB.cell 1 rfl;have f_1:=hB.free 1
      have c_2:=hB.cell 2 rfl;have f_2:=hB.free 2
      have c_3:=hB.cell 3 rfl;have f_3:=hB.free 3
      have c_4:=hB.cell 4 rfl;have f_4:=hB.free 4
      have c_5:=hB.cell 5 rfl;have f_5:=hB.free 5
      have c_6:=hB.cell 6 rfl;have f_6:=hB.free 6
      have c_7:=hB.cell 7 rfl;have f_7:=hB.free 7
      have c_8:=hB.cell 8 rfl;have f_8:=hB.free 8
      have c_9:=hB.cell 9 rfl;have f_9:=hB.free 9
      have c_10:=hB.cell 10 rfl;have f_10:=hB.free 10
      have c_11:=hB.cell 11 rfl;have f_11:=hB.free 11
      have HB:=Lib.hid hB;clear hB
      go_simp
      exact hK_.out _ (((((((((((((Only.refl _ _).set 0 _).set 1 _).set 2 _).set 3 _).set 4 _).set 5 _).set 6 _).set 7 _).set 8 _).set 9 _).set 10 _).set 11 _) (Blk.cast ((((((((((((HB.out.set 0 _).set 1 _).set 2 _).set 3 _).set 4 _).set 5 _).set 6 _).set 7 _).set 8 _).set 9 _).set 10 _).set 11 _) (by simp only [List.setIfInBounds_toArray,List.set_cons_zero,List.set_cons_succ]))
    refine RnL.cons (fun g5 A_ W_ hs_=>?_) ?_
    · refine Rn.val fun K_ hK_=>?_
      go_simp
      exact hK_.out _ (Ext.refl _)
    exact RnL.nil
  simp only [fs,Kd.value,puts,Act.put,List.setIfInBounds_toArray,List.set_cons_zero,List.set_cons_succ]
  have HX6:Hid (Ext w w6):=Lib.hid hx_
  have HB2_6:Hid (Blk w6 (w.heap.size+1+1) #[.string (qs r1.x),.string (qs r1.y),.string (qs r1.z),.string (qs r2.x),.string (qs r2.y),.string (qs r2.z),.string (qs r3.x),.string (qs r3.y),.string (qs r3.z),.string (qs S.x),.string (qs S.y),.string (qs S.z)] 66):=Lib.hid (hb_ 0 _ rfl)
  clear hx_ hm_ hne_ hk_ hb_
  go_wp2_with fail
  have gB2_0:=HB2_6.out.cell 0 rfl
  have gB2_1:=HB2_6.out.cell 1 rfl
  have gB2_2:=HB2_6.out.cell 2 rfl
  have gB2_3:=HB2_6.out.cell 3 rfl
  have gB2_4:=HB2_6.out.cell 4 rfl
  have gB2_5:=HB2_6.out.cell 5 rfl
  have gB2_6:=HB2_6.out.cell 6 rfl
  have gB2_7:=HB2_6.out.cell 7 rfl
  have gB2_8:=HB2_6.out.cell 8 rfl
  have gB2_9:=HB2_6.out.cell 9 rfl
  have gB2_10:=HB2_6.out.cell 10 rfl
  have gB2_11:=HB2_6.out.cell 11 rfl
  refine bodyPost_ret (v:=.tuple #[.agg #[.string (qs r1.x),.string (qs r1.y),.string (qs r1.z),.string (qs r2.x),.string (qs r2.y),.string (qs r2.z),.string (qs r3.x),.string (qs r3.y),.string (qs r3.z),.string (qs S.x),.string (qs S.y),.string (qs S.z)],.int .i64 0]) (by simp [results,Tryz.results31,go_sem,gB2_0,gB2_1,gB2_2,gB2_3,gB2_4,gB2_5,gB2_6,gB2_7,gB2_8,gB2_9,gB2_10,gB2_11]) rfl ⟨rfl,HX6.out⟩

set_option maxHeartbeats 2000000 in
theorem raxis_k0 (t:Q4) (p0 p1 p2 p3:Int) (A B:V3) (w:World) (g:Gd w) (hq:QErr t 0) (hi:Q4In t) (hz:¬ t.zero) (hp:prim4 t=⟨p0,p1,p2,p3⟩) (hA:iv p1 p2 p3=A) (hb:VB 5 A) (hs:(p1:Int).natAbs<100000∧(p2:Int).natAbs<100000∧(p3:Int).natAbs<100000) (hB:vprim A=B) (hn:p1≠0) (hnz:¬ (A.x=0∧A.y=0∧A.z=0)):Calls Tryz.prog 32 #[.agg #[.int .i64 t.w,.int .i64 t.x,.int .i64 t.y,.int .i64 t.z]] w (Ret w (.tuple #[.agg #[.string (qs B.x),.string (qs B.y),.string (qs B.z)],.int .i64 0])):=by
  have HE:=Lib.hid hq
  have HI:=Lib.hid hi
  have HZ:=Lib.hid hz
  have HEP:=Lib.hid hp
  have HAE:=Lib.hid hA
  have HAV:=Lib.hid hb
  have HSZ:=Lib.hid hs
  have HBE:=Lib.hid hB
  have HNZ:=Lib.hid hnz
  have HG:=Lib.hid g
  clear hq hi hz hp hA hb hs hB hnz g
  have hn_n:(p1 != 0)=true:=bne_iff_ne.2 hn
  have hn_e:(p1 == 0)=false:=beq_eq_false_iff_ne.2 hn
  clear hn
  go_enter Tryz.func32,Tryz.ntmps32
  go_wp2_with fail
  refine (rchk_l _ (HG.out.ext (((Ext.refl w).alloc _).alloc _)) HE.out).mono ?_;rintro e w1 ⟨rfl,e1⟩
  have HX1:Hid (Ext w w1):=Lib.hid ((((Ext.refl w).alloc _).alloc _).trans e1)
  have HB0_1:Hid (Blk w1 (w.heap.size) #[.int .i64 t.w,.int .i64 t.x,.int .i64 t.y,.int .i64 t.z] 22):=Lib.hid (Blk.ext ((Blk.new' (w:=_) (cs:=#[.int .i64 t.w,.int .i64 t.x,.int .i64 t.y,.int .i64 t.z]) (t:=22) (by first|rfl|(simp only [World.size_alloc];done)|(simp only [World.size_alloc];omega)|simp)).alloc _) e1)
  have HB1_1:Hid (Blk w1 (w.heap.size+1) #[.string ⟨#[]⟩,.string ⟨#[]⟩,.string ⟨#[]⟩] 31):=Lib.hid (Blk.ext (Blk.new' (w:=_) (cs:=#[.string ⟨#[]⟩,.string ⟨#[]⟩,.string ⟨#[]⟩]) (t:=31) (by first|rfl|(simp only [World.size_alloc];done)|(simp only [World.size_alloc];omega)|simp)) e1)
  have HGEB0:Hid (w.heap.size≤w.heap.size):=Lib.hid (by first|omega|(simp only [];omega)|(simp;omega))
  have HGEB1:Hid (w.heap.size≤w.heap.size+1):=Lib.hid (by first|omega|(simp only [];omega)|(simp;omega))
  clear e1
  have c0_0:=HB0_1.out.cell 0 rfl
  have c0_1:=HB0_1.out.cell 1 rfl
  have c0_2:=HB0_1.out.cell 2 rfl
  have c0_3:=HB0_1.out.cell 3 rfl
  go_wp2_with fail
  refine (rprim_as t ⟨p0,p1,p2,p3⟩ HEP.out _ (HG.out.ext HX1.out) HI.out.bd HZ.out).mono ?_;rintro e w2 ⟨rfl,e2⟩
  have HX2:Hid (Ext w w2):=Lib.hid (HX1.out.trans e2)
  have HB0_2:=Lib.hid (Blk.ext HB0_1.out e2)
  have HB1_2:=Lib.hid (Blk.ext HB1_1.out e2)
  clear e2 c0_0 c0_1 c0_2 c0_3
  have c0_0:=HB0_2.out.cell 0 rfl
  have f0_0:=HB0_2.out.free 0
  have c0_1:=HB0_2.out.cell 1 rfl
  have f0_1:=HB0_2.out.free 1
  have c0_2:=HB0_2.out.cell 2 rfl
  have f0_2:=HB0_2.out.free 2
  have c0_3:=HB0_2.out.cell 3 rfl
  have f0_3:=HB0_2.out.free 3
  go_upto_region 5 with fail
  refine wp_name (fun W=>Ext w W∧Blk W (w.heap.size) #[.int .i64 p0,.int .i64 p1,.int .i64 p2,.int .i64 p3] 22∧Blk W (w.heap.size+1) #[.string ⟨#[]⟩,.string ⟨#[]⟩,.string ⟨#[]⟩] 31) ⟨((((HX2.out.setCell (by have:=HGEB0.out;first|omega|(simp only [];omega)|(simp;omega)) _).setCell (by have:=HGEB0.out;first|omega|(simp only [];omega)|(simp;omega)) _).setCell (by have:=HGEB0.out;first|omega|(simp only [];omega)|(simp;omega)) _).setCell (by have:=HGEB0.out;first|omega|(simp only [];omega)|(simp;omega)) _),((((HB0_2.out.set 0 (.int .i64 p0)).set 1 (.int .i64 p1)).set 2 (.int .i64 p2)).set 3 (.int .i64 p3)),((((HB1_2.out.other (a:=⟨w.heap.size,0,none⟩) _ (by first|omega|(simp only [];omega)|(simp;omega))).other (a:=⟨w.heap.size,1,none⟩) _ (by first|omega|(simp only [];omega)|(simp;omega))).other (a:=⟨w.heap.size,2,none⟩) _ (by first|omega|(simp only [];omega)|(simp;omega))).other (a:=⟨w.heap.size,3,none⟩) _ (by first|omega|(simp only [];omega)|(simp;omega)))⟩ ?_
  rintro w3 ⟨e3,bB0_3,bB1_3⟩
  have HX3:=Lib.hid e3;have HB0_3:=Lib.hid bB0_3;have HB1_3:=Lib.hid bB1_3
  clear e3 bB0_3 bB1_3 c0_0 f0_0 c0_1 f0_1 c0_2 f0_2 c0_3 f0_3
  have c0_1:=HB0_3.out.cell 1 rfl
  have c0_2:=HB0_3.out.cell 2 rfl
  have c0_3:=HB0_3.out.cell 3 rfl
  go_wp2_with fail
  refine (vof_as p1 p2 p3 A HAE.out _ (HG.out.ext HX3.out) HSZ.out.1 HSZ.out.2.1 HSZ.out.2.2).mono ?_;rintro e w4 ⟨rfl,e4⟩
  have HX4:Hid (Ext w w4):=Lib.hid (HX3.out.trans e4)
  have HB1_4:=Lib.hid (Blk.ext HB1_3.out e4)
  clear e4 c0_1 c0_2 c0_3
  go_wp2_with fail
  refine (vPrim_as A B HBE.out _ (HG.out.ext HX4.out) HAV.out HNZ.out).mono ?_;rintro e w5 ⟨rfl,e5⟩
  have HX5:Hid (Ext w w5):=Lib.hid (HX4.out.trans e5)
  have HB1_5:=Lib.hid (Blk.ext HB1_4.out e5)
  clear e5
  have c1_0:=HB1_5.out.cell 0 rfl
  have f1_0:=HB1_5.out.free 0
  have c1_1:=HB1_5.out.cell 1 rfl
  have f1_1:=HB1_5.out.free 1
  have c1_2:=HB1_5.out.cell 2 rfl
  have f1_2:=HB1_5.out.free 2
  go_wp2_with fail
  refine wp_name (fun W=>Ext w W∧Blk W (w.heap.size+1) #[.string (qs B.x),.string (qs B.y),.string (qs B.z)] 31) ⟨(((HX5.out.setCell (by have:=HGEB1.out;first|omega|(simp only [];omega)|(simp;omega)) _).setCell (by have:=HGEB1.out;first|omega|(simp only [];omega)|(simp;omega)) _).setCell (by have:=HGEB1.out;first|omega|(simp only [];omega)|(simp;omega)) _),(((HB1_5.out.set 0 (.string (qs B.x))).set 1 (.string (qs B.y))).set 2 (.string (qs B.z)))⟩ ?_
  rintro w6 ⟨e6,bB1_6⟩
  have HX6:=Lib.hid e6;have HB1_6:=Lib.hid bB1_6
  clear e6 bB1_6 c1_0 f1_0 c1_1 f1_1 c1_2 f1_2
  have gB1_0:=HB1_6.out.cell 0 rfl
  have gB1_1:=HB1_6.out.cell 1 rfl
  have gB1_2:=HB1_6.out.cell 2 rfl
  refine bodyPost_ret (v:=.tuple #[.agg #[.string (qs B.x),.string (qs B.y),.string (qs B.z)],.int .i64 0]) (by simp [results,Tryz.results32,go_sem,gB1_0,gB1_1,gB1_2]) rfl ⟨rfl,HX6.out⟩

set_option maxHeartbeats 2000000 in
theorem raxis_k1 (t:Q4) (p0 p2 p3:Int) (A B:V3) (w:World) (g:Gd w) (hq:QErr t 0) (hi:Q4In t) (hz:¬ t.zero) (hp:prim4 t=⟨p0,0,p2,p3⟩) (hA:iv 0 p2 p3=A) (hb:VB 5 A) (hs:(0:Int).natAbs<100000∧(p2:Int).natAbs<100000∧(p3:Int).natAbs<100000) (hB:vprim A=B) (hn:p2≠0) (hnz:¬ (A.x=0∧A.y=0∧A.z=0)):Calls Tryz.prog 32 #[.agg #[.int .i64 t.w,.int .i64 t.x,.int .i64 t.y,.int .i64 t.z]] w (Ret w (.tuple #[.agg #[.string (qs B.x),.string (qs B.y),.string (qs B.z)],.int .i64 0])):=by
  have HE:=Lib.hid hq
  have HI:=Lib.hid hi
  have HZ:=Lib.hid hz
  have HEP:=Lib.hid hp
  have HAE:=Lib.hid hA
  have HAV:=Lib.hid hb
  have HSZ:=Lib.hid hs
  have HBE:=Lib.hid hB
  have HNZ:=Lib.hid hnz
  have HG:=Lib.hid g
  clear hq hi hz hp hA hb hs hB hnz g
  have hn_n:(p2 != 0)=true:=bne_iff_ne.2 hn
  have hn_e:(p2 == 0)=false:=beq_eq_false_iff_ne.2 hn
  clear hn
  go_enter Tryz.func32,Tryz.ntmps32
  go_wp2_with fail
  refine (rchk_l _ (HG.out.ext (((Ext.refl w).alloc _).alloc _)) HE.out).mono ?_;rintro e w1 ⟨rfl,e1⟩
  have HX1:Hid (Ext w w1):=Lib.hid ((((Ext.refl w).alloc _).alloc _).trans e1)
  have HB0_1:Hid (Blk w1 (w.heap.size) #[.int .i64 t.w,.int .i64 t.x,.int .i64 t.y,.int .i64 t.z] 22):=Lib.hid (Blk.ext ((Blk.new' (w:=_) (cs:=#[.int .i64 t.w,.int .i64 t.x,.int .i64 t.y,.int .i64 t.z]) (t:=22) (by first|rfl|(simp only [World.size_alloc];done)|(simp only [World.size_alloc];omega)|simp)).alloc _) e1)
  have HB1_1:Hid (Blk w1 (w.heap.size+1) #[.string ⟨#[]⟩,.string ⟨#[]⟩,.string ⟨#[]⟩] 31):=Lib.hid (Blk.ext (Blk.new' (w:=_) (cs:=#[.string ⟨#[]⟩,.string ⟨#[]⟩,.string ⟨#[]⟩]) (t:=31) (by first|rfl|(simp only [World.size_alloc];done)|(simp only [World.size_alloc];omega)|simp)) e1)
  have HGEB0:Hid (w.heap.size≤w.heap.size):=Lib.hid (by first|omega|(simp only [];omega)|(simp;omega))
  have HGEB1:Hid (w.heap.size≤w.heap.size+1):=Lib.hid (by first|omega|(simp only [];omega)|(simp;omega))
  clear e1
  have c0_0:=HB0_1.out.cell 0 rfl
  have c0_1:=HB0_1.out.cell 1 rfl
  have c0_2:=HB0_1.out.cell 2 rfl
  have c0_3:=HB0_1.out.cell 3 rfl
  go_wp2_with fail
  refine (rprim_as t ⟨p0,0,p2,p3⟩ HEP.out _ (HG.out.ext HX1.out) HI.out.bd HZ.out).mono ?_;rintro e w2 ⟨rfl,e2⟩
  have HX2:Hid (Ext w w2):=Lib.hid (HX1.out.trans e2)
  have HB0_2:=Lib.hid (Blk.ext HB0_1.out e2)
  have HB1_2:=Lib.hid (Blk.ext HB1_1.out e2)
  clear e2 c0_0 c0_1 c0_2 c0_3
  have c0_0:=HB0_2.out.cell 0 rfl
  have f0_0:=HB0_2.out.free 0
  have c0_1:=HB0_2.out.cell 1 rfl
  have f0_1:=HB0_2.out.free 1
  have c0_2:=HB0_2.out.cell 2 rfl
  have f0_2:=HB0_2.out.free 2
  have c0_3:=HB0_2.out.cell 3 rfl
  have f0_3:=HB0_2.out.free 3
  go_upto_region 5 with fail
  refine wp_name (fun W=>Ext w W∧Blk W (w.heap.size) #[.int .i64 p0,.int .i64 0,.int .i64 p2,.int .i64 p3] 22∧Blk W (w.heap.size+1) #[.string ⟨#[]⟩,.string ⟨#[]⟩,.string ⟨#[]⟩] 31) ⟨((((HX2.out.setCell (by have:=HGEB0.out;first|omega|(simp only [];omega)|(simp;omega)) _).setCell (by have:=HGEB0.out;first|omega|(simp only [];omega)|(simp;omega)) _).setCell (by have:=HGEB0.out;first|omega|(simp only [];omega)|(simp;omega)) _).setCell (by have:=HGEB0.out;first|omega|(simp only [];omega)|(simp;omega)) _),((((HB0_2.out.set 0 (.int .i64 p0)).set 1 (.int .i64 0)).set 2 (.int .i64 p2)).set 3 (.int .i64 p3)),((((HB1_2.out.other (a:=⟨w.heap.size,0,none⟩) _ (by first|omega|(simp only [];omega)|(simp;omega))).other (a:=⟨w.heap.size,1,none⟩) _ (by first|omega|(simp only [];omega)|(simp;omega))).other (a:=⟨w.heap.size,2,none⟩) _ (by first|omega|(simp only [];omega)|(simp;omega))).other (a:=⟨w.heap.size,3,none⟩) _ (by first|omega|(simp only [];omega)|(simp;omega)))⟩ ?_
  rintro w3 ⟨e3,bB0_3,bB1_3⟩
  have HX3:=Lib.hid e3;have HB0_3:=Lib.hid bB0_3;have HB1_3:=Lib.hid bB1_3
  clear e3 bB0_3 bB1_3 c0_0 f0_0 c0_1 f0_1 c0_2 f0_2 c0_3 f0_3
  have c0_1:=HB0_3.out.cell 1 rfl
  have c0_2:=HB0_3.out.cell 2 rfl
  have c0_3:=HB0_3.out.cell 3 rfl
  go_wp2_with fail
  refine (vof_as 0 p2 p3 A HAE.out _ (HG.out.ext HX3.out) HSZ.out.1 HSZ.out.2.1 HSZ.out.2.2).mono ?_;rintro e w4 ⟨rfl,e4⟩
  have HX4:Hid (Ext w w4):=Lib.hid (HX3.out.trans e4)
  have HB1_4:=Lib.hid (Blk.ext HB1_3.out e4)
  clear e4 c0_1 c0_2 c0_3
  go_wp2_with fail
  refine (vPrim_as A B HBE.out _ (HG.out.ext HX4.out) HAV.out HNZ.out).mono ?_;rintro e w5 ⟨rfl,e5⟩
  have HX5:Hid (Ext w w5):=Lib.hid (HX4.out.trans e5)
  have HB1_5:=Lib.hid (Blk.ext HB1_4.out e5)
  clear e5
  have c1_0:=HB1_5.out.cell 0 rfl
  have f1_0:=HB1_5.out.free 0
  have c1_1:=HB1_5.out.cell 1 rfl
  have f1_1:=HB1_5.out.free 1
  have c1_2:=HB1_5.out.cell 2 rfl
  have f1_2:=HB1_5.out.free 2
  go_wp2_with fail
  refine wp_name (fun W=>Ext w W∧Blk W (w.heap.size+1) #[.string (qs B.x),.string (qs B.y),.string (qs B.z)] 31) ⟨(((HX5.out.setCell (by have:=HGEB1.out;first|omega|(simp only [];omega)|(simp;omega)) _).setCell (by have:=HGEB1.out;first|omega|(simp only [];omega)|(simp;omega)) _).setCell (by have:=HGEB1.out;first|omega|(simp only [];omega)|(simp;omega)) _),(((HB1_5.out.set 0 (.string (qs B.x))).set 1 (.string (qs B.y))).set 2 (.string (qs B.z)))⟩ ?_
  rintro w6 ⟨e6,bB1_6⟩
  have HX6:=Lib.hid e6;have HB1_6:=Lib.hid bB1_6
  clear e6 bB1_6 c1_0 f1_0 c1_1 f1_1 c1_2 f1_2
  have gB1_0:=HB1_6.out.cell 0 rfl
  have gB1_1:=HB1_6.out.cell 1 rfl
  have gB1_2:=HB1_6.out.cell 2 rfl
  refine bodyPost_ret (v:=.tuple #[.agg #[.string (qs B.x),.string (qs B.y),.string (qs B.z)],.int .i64 0]) (by simp [results,Tryz.results32,go_sem,gB1_0,gB1_1,gB1_2]) rfl ⟨rfl,HX6.out⟩

set_option maxHeartbeats 2000000 in
theorem raxis_k2 (t:Q4) (p0 p3:Int) (A B:V3) (w:World) (g:Gd w) (hq:QErr t 0) (hi:Q4In t) (hz:¬ t.zero) (hp:prim4 t=⟨p0,0,0,p3⟩) (hA:iv 0 0 p3=A) (hb:VB 5 A) (hs:(0:Int).natAbs<100000∧(0:Int).natAbs<100000∧(p3:Int).natAbs<100000) (hB:vprim A=B) (hn:p3≠0) (hnz:¬ (A.x=0∧A.y=0∧A.z=0)):Calls Tryz.prog 32 #[.agg #[.int .i64 t.w,.int .i64 t.x,.int .i64 t.y,.int .i64 t.z]] w (Ret w (.tuple #[.agg #[.string (qs B.x),.string (qs B.y),.string (qs B.z)],.int .i64 0])):=by
  have HE:=Lib.hid hq
  have HI:=Lib.hid hi
  have HZ:=Lib.hid hz
  have HEP:=Lib.hid hp
  have HAE:=Lib.hid hA
  have HAV:=Lib.hid hb
  have HSZ:=Lib.hid hs
  have HBE:=Lib.hid hB
  have HNZ:=Lib.hid hnz
  have HG:=Lib.hid g
  clear hq hi hz hp hA hb hs hB hnz g
  have hn_n:(p3 != 0)=true:=bne_iff_ne.2 hn
  have hn_e:(p3 == 0)=false:=beq_eq_false_iff_ne.2 hn
  clear hn
  go_enter Tryz.func32,Tryz.ntmps32
  go_wp2_with fail
  refine (rchk_l _ (HG.out.ext (((Ext.refl w).alloc _).alloc _)) HE.out).mono ?_;rintro e w1 ⟨rfl,e1⟩
  have HX1:Hid (Ext w w1):=Lib.hid ((((Ext.refl w).alloc _).alloc _).trans e1)
  have HB0_1:Hid (Blk w1 (w.heap.size) #[.int .i64 t.w,.int .i64 t.x,.int .i64 t.y,.int .i64 t.z] 22):=Lib.hid (Blk.ext ((Blk.new' (w:=_) (cs:=#[.int .i64 t.w,.int .i64 t.x,.int .i64 t.y,.int .i64 t.z]) (t:=22) (by first|rfl|(simp only [World.size_alloc];done)|(simp only [World.size_alloc];omega)|simp)).alloc _) e1)
  have HB1_1:Hid (Blk w1 (w.heap.size+1) #[.string ⟨#[]⟩,.string ⟨#[]⟩,.string ⟨#[]⟩] 31):=Lib.hid (Blk.ext (Blk.new' (w:=_) (cs:=#[.string ⟨#[]⟩,.string ⟨#[]⟩,.string ⟨#[]⟩]) (t:=31) (by first|rfl|(simp only [World.size_alloc];done)|(simp only [World.size_alloc];omega)|simp)) e1)
  have HGEB0:Hid (w.heap.size≤w.heap.size):=Lib.hid (by first|omega|(simp only [];omega)|(simp;omega))
  have HGEB1:Hid (w.heap.size≤w.heap.size+1):=Lib.hid (by first|omega|(simp only [];omega)|(simp;omega))
  clear e1
  have c0_0:=HB0_1.out.cell 0 rfl
  have c0_1:=HB0_1.out.cell 1 rfl
  have c0_2:=HB0_1.out.cell 2 rfl
  have c0_3:=HB0_1.out.cell 3 rfl
  go_wp2_with fail
  refine (rprim_as t ⟨p0,0,0,p3⟩ HEP.out _ (HG.out.ext HX1.out) HI.out.bd HZ.out).mono ?_;rintro e w2 ⟨rfl,e2⟩
  have HX2:Hid (Ext w w2):=Lib.hid (HX1.out.trans e2)
  have HB0_2:=Lib.hid (Blk.ext HB0_1.out e2)
  have HB1_2:=Lib.hid (Blk.ext HB1_1.out e2)
  clear e2 c0_0 c0_1 c0_2 c0_3
  have c0_0:=HB0_2.out.cell 0 rfl
  have f0_0:=HB0_2.out.free 0
  have c0_1:=HB0_2.out.cell 1 rfl
  have f0_1:=HB0_2.out.free 1
  have c0_2:=HB0_2.out.cell 2 rfl
  have f0_2:=HB0_2.out.free 2
  have c0_3:=HB0_2.out.cell 3 rfl
  have f0_3:=HB0_2.out.free 3
  go_upto_region 5 with fail
  refine wp_name (fun W=>Ext w W∧Blk W (w.heap.size) #[.int .i64 p0,.int .i64 0,.int .i64 0,.int .i64 p3] 22∧Blk W (w.heap.size+1) #[.string ⟨#[]⟩,.string ⟨#[]⟩,.string ⟨#[]⟩] 31) ⟨((((HX2.out.setCell (by have:=HGEB0.out;first|omega|(simp only [];omega)|(simp;omega)) _).setCell (by have:=HGEB0.out;first|omega|(simp only [];omega)|(simp;omega)) _).setCell (by have:=HGEB0.out;first|omega|(simp only [];omega)|(simp;omega)) _).setCell (by have:=HGEB0.out;first|omega|(simp only [];omega)|(simp;omega)) _),((((HB0_2.out.set 0 (.int .i64 p0)).set 1 (.int .i64 0)).set 2 (.int .i64 0)).set 3 (.int .i64 p3)),((((HB1_2.out.other (a:=⟨w.heap.size,0,none⟩) _ (by first|omega|(simp only [];omega)|(simp;omega))).other (a:=⟨w.heap.size,1,none⟩) _ (by first|omega|(simp only [];omega)|(simp;omega))).other (a:=⟨w.heap.size,2,none⟩) _ (by first|omega|(simp only [];omega)|(simp;omega))).other (a:=⟨w.heap.size,3,none⟩) _ (by first|omega|(simp only [];omega)|(simp;omega)))⟩ ?_
  rintro w3 ⟨e3,bB0_3,bB1_3⟩
  have HX3:=Lib.hid e3;have HB0_3:=Lib.hid bB0_3;have HB1_3:=Lib.hid bB1_3
  clear e3 bB0_3 bB1_3 c0_0 f0_0 c0_1 f0_1 c0_2 f0_2 c0_3 f0_3
  have c0_1:=HB0_3.out.cell 1 rfl
  have c0_2:=HB0_3.out.cell 2 rfl
  have c0_3:=HB0_3.out.cell 3 rfl
  go_wp2_with fail
  refine (vof_as 0 0 p3 A HAE.out _ (HG.out.ext HX3.out) HSZ.out.1 HSZ.out.2.1 HSZ.out.2.2).mono ?_;rintro e w4 ⟨rfl,e4⟩
  have HX4:Hid (Ext w w4):=Lib.hid (HX3.out.trans e4)
  have HB1_4:=Lib.hid (Blk.ext HB1_3.out e4)
  clear e4 c0_1 c0_2 c0_3
  go_wp2_with fail
  refine (vPrim_as A B HBE.out _ (HG.out.ext HX4.out) HAV.out HNZ.out).mono ?_;rintro e w5 ⟨rfl,e5⟩
  have HX5:Hid (Ext w w5):=Lib.hid (HX4.out.trans e5)
  have HB1_5:=Lib.hid (Blk.ext HB1_4.out e5)
  clear e5
  have c1_0:=HB1_5.out.cell 0 rfl
  have f1_0:=HB1_5.out.free 0
  have c1_1:=HB1_5.out.cell 1 rfl
  have f1_1:=HB1_5.out.free 1
  have c1_2:=HB1_5.out.cell 2 rfl
  have f1_2:=HB1_5.out.free 2
  go_wp2_with fail
  refine wp_name (fun W=>Ext w W∧Blk W (w.heap.size+1) #[.string (qs B.x),.string (qs B.y),.string (qs B.z)] 31) ⟨(((HX5.out.setCell (by have:=HGEB1.out;first|omega|(simp only [];omega)|(simp;omega)) _).setCell (by have:=HGEB1.out;first|omega|(simp only [];omega)|(simp;omega)) _).setCell (by have:=HGEB1.out;first|omega|(simp only [];omega)|(simp;omega)) _),(((HB1_5.out.set 0 (.string (qs B.x))).set 1 (.string (qs B.y))).set 2 (.string (qs B.z)))⟩ ?_
  rintro w6 ⟨e6,bB1_6⟩
  have HX6:=Lib.hid e6;have HB1_6:=Lib.hid bB1_6
  clear e6 bB1_6 c1_0 f1_0 c1_1 f1_1 c1_2 f1_2
  have gB1_0:=HB1_6.out.cell 0 rfl
  have gB1_1:=HB1_6.out.cell 1 rfl
  have gB1_2:=HB1_6.out.cell 2 rfl
  refine bodyPost_ret (v:=.tuple #[.agg #[.string (qs B.x),.string (qs B.y),.string (qs B.z)],.int .i64 0]) (by simp [results,Tryz.results32,go_sem,gB1_0,gB1_1,gB1_2]) rfl ⟨rfl,HX6.out⟩

set_option maxHeartbeats 2000000 in
theorem raxis_k3 (t:Q4) (p0:Int) (w:World) (g:Gd w) (hq:QErr t 0) (hi:Q4In t) (hz:¬ t.zero) (hp:prim4 t=⟨p0,0,0,0⟩):Calls Tryz.prog 32 #[.agg #[.int .i64 t.w,.int .i64 t.x,.int .i64 t.y,.int .i64 t.z]] w (Ret w (.tuple #[.agg #[.string ⟨#[]⟩,.string ⟨#[]⟩,.string ⟨#[]⟩],.int .i64 19])):=by
  have HE:=Lib.hid hq
  have HI:=Lib.hid hi
  have HZ:=Lib.hid hz
  have HEP:=Lib.hid hp
  have HG:=Lib.hid g
  clear hq hi hz hp g
  go_enter Tryz.func32,Tryz.ntmps32
  go_wp2_with fail
  refine (rchk_l _ (HG.out.ext (((Ext.refl w).alloc _).alloc _)) HE.out).mono ?_;rintro e w1 ⟨rfl,e1⟩
  have HX1:Hid (Ext w w1):=Lib.hid ((((Ext.refl w).alloc _).alloc _).trans e1)
  have HB0_1:Hid (Blk w1 (w.heap.size) #[.int .i64 t.w,.int .i64 t.x,.int .i64 t.y,.int .i64 t.z] 22):=Lib.hid (Blk.ext ((Blk.new' (w:=_) (cs:=#[.int .i64 t.w,.int .i64 t.x,.int .i64 t.y,.int .i64 t.z]) (t:=22) (by first|rfl|(simp only [World.size_alloc];done)|(simp only [World.size_alloc];omega)|simp)).alloc _) e1)
  have HB1_1:Hid (Blk w1 (w.heap.size+1) #[.string ⟨#[]⟩,.string ⟨#[]⟩,.string ⟨#[]⟩] 31):=Lib.hid (Blk.ext (Blk.new' (w:=_) (cs:=#[.string ⟨#[]⟩,.string ⟨#[]⟩,.string ⟨#[]⟩]) (t:=31) (by first|rfl|(simp only [World.size_alloc];done)|(simp only [World.size_alloc];omega)|simp)) e1)
  have HGEB0:Hid (w.heap.size≤w.heap.size):=Lib.hid (by first|omega|(simp only [];omega)|(simp;omega))
  have HGEB1:Hid (w.heap.size≤w.heap.size+1):=Lib.hid (by first|omega|(simp only [];omega)|(simp;omega))
  clear e1
  have c0_0:=HB0_1.out.cell 0 rfl
  have c0_1:=HB0_1.out.cell 1 rfl
  have c0_2:=HB0_1.out.cell 2 rfl
  have c0_3:=HB0_1.out.cell 3 rfl
  go_wp2_with fail
  refine (rprim_as t ⟨p0,0,0,0⟩ HEP.out _ (HG.out.ext HX1.out) HI.out.bd HZ.out).mono ?_;rintro e w2 ⟨rfl,e2⟩
  have HX2:Hid (Ext w w2):=Lib.hid (HX1.out.trans e2)
  have HB0_2:=Lib.hid (Blk.ext HB0_1.out e2)
  have HB1_2:=Lib.hid (Blk.ext HB1_1.out e2)
  clear e2 c0_0 c0_1 c0_2 c0_3
  have c0_0:=HB0_2.out.cell 0 rfl
  have f0_0:=HB0_2.out.free 0
  have c0_1:=HB0_2.out.cell 1 rfl
  have f0_1:=HB0_2.out.free 1
  have c0_2:=HB0_2.out.cell 2 rfl
  have f0_2:=HB0_2.out.free 2
  have c0_3:=HB0_2.out.cell 3 rfl
  have f0_3:=HB0_2.out.free 3
  go_upto_region 5 with fail
  refine wp_name (fun W=>Ext w W∧Blk W (w.heap.size) #[.int .i64 p0,.int .i64 0,.int .i64 0,.int .i64 0] 22∧Blk W (w.heap.size+1) #[.string ⟨#[]⟩,.string ⟨#[]⟩,.string ⟨#[]⟩] 31) ⟨((((HX2.out.setCell (by have:=HGEB0.out;first|omega|(simp only [];omega)|(simp;omega)) _).setCell (by have:=HGEB0.out;first|omega|(simp only [];omega)|(simp;omega)) _).setCell (by have:=HGEB0.out;first|omega|(simp only [];omega)|(simp;omega)) _).setCell (by have:=HGEB0.out;first|omega|(simp only [];omega)|(simp;omega)) _),((((HB0_2.out.set 0 (.int .i64 p0)).set 1 (.int .i64 0)).set 2 (.int .i64 0)).set 3 (.int .i64 0)),((((HB1_2.out.other (a:=⟨w.heap.size,0,none⟩) _ (by first|omega|(simp only [];omega)|(simp;omega))).other (a:=⟨w.heap.size,1,none⟩) _ (by first|omega|(simp only [];omega)|(simp;omega))).other (a:=⟨w.heap.size,2,none⟩) _ (by first|omega|(simp only [];omega)|(simp;omega))).other (a:=⟨w.heap.size,3,none⟩) _ (by first|omega|(simp only [];omega)|(simp;omega)))⟩ ?_
  rintro w3 ⟨e3,bB0_3,bB1_3⟩
  have HX3:=Lib.hid e3;have HB0_3:=Lib.hid bB0_3;have HB1_3:=Lib.hid bB1_3
  clear e3 bB0_3 bB1_3 c0_0 f0_0 c0_1 f0_1 c0_2 f0_2 c0_3 f0_3
  have c0_1:=HB0_3.out.cell 1 rfl
  have c0_2:=HB0_3.out.cell 2 rfl
  have c0_3:=HB0_3.out.cell 3 rfl
  have c1_0:=HB1_3.out.cell 0 rfl
  have f1_0:=HB1_3.out.free 0
  have c1_1:=HB1_3.out.cell 1 rfl
  have f1_1:=HB1_3.out.free 1
  have c1_2:=HB1_3.out.cell 2 rfl
  have f1_2:=HB1_3.out.free 2
  go_wp2_with fail
  refine wp_name (fun W=>Ext w W∧Blk W (w.heap.size+1) #[.string ⟨#[]⟩,.string ⟨#[]⟩,.string ⟨#[]⟩] 31) ⟨(((HX3.out.setCell (by have:=HGEB1.out;first|omega|(simp only [];omega)|(simp;omega)) _).setCell (by have:=HGEB1.out;first|omega|(simp only [];omega)|(simp;omega)) _).setCell (by have:=HGEB1.out;first|omega|(simp only [];omega)|(simp;omega)) _),(((HB1_3.out.set 0 (.string ⟨#[]⟩)).set 1 (.string ⟨#[]⟩)).set 2 (.string ⟨#[]⟩))⟩ ?_
  rintro w4 ⟨e4,bB1_4⟩
  have HX4:=Lib.hid e4;have HB1_4:=Lib.hid bB1_4
  clear e4 bB1_4 c0_1 c0_2 c0_3 c1_0 f1_0 c1_1 f1_1 c1_2 f1_2
  have gB1_0:=HB1_4.out.cell 0 rfl
  have gB1_1:=HB1_4.out.cell 1 rfl
  have gB1_2:=HB1_4.out.cell 2 rfl
  refine bodyPost_ret (v:=.tuple #[.agg #[.string ⟨#[]⟩,.string ⟨#[]⟩,.string ⟨#[]⟩],.int .i64 19]) (by simp [results,Tryz.results32,go_sem,gB1_0,gB1_1,gB1_2]) rfl ⟨rfl,HX4.out⟩

theorem iv_nz {a b c:Int}:((iv a b c).x=0∧(iv a b c).y=0∧(iv a b c).z=0) ↔ (a=0∧b=0∧c=0):=by
  unfold iv;simp only [Rat.intCast_eq_zero_iff]
theorem raxis_ok (t p:Q4) (A B:V3) (w:World) (g:Gd w) (hq:QErr t 0) (hi:Q4In t) (hz:¬ t.zero) (hp:prim4 t=p) (hA:iv p.x p.y p.z=A) (hs:Q4S p) (hB:vprim A=B) (hnz:¬ (A.x=0∧A.y=0∧A.z=0)):Calls Tryz.prog 32 #[.agg #[.int .i64 t.w,.int .i64 t.x,.int .i64 t.y,.int .i64 t.z]] w (Ret w (.tuple #[.agg #[.string (qs B.x),.string (qs B.y),.string (qs B.z)],.int .i64 0])):=by
  obtain ⟨p0,p1,p2,p3⟩:=p
  have hx:=hs.x;have hy:=hs.y;have hzz:=hs.z
  simp only at hA hx hy hzz
  have hb:VB 5 A:=by rw [← hA];exact iv_vb (by omega) (by omega) (by omega)
  have n0:¬ (p1=0∧p2=0∧p3=0):=fun h=>hnz (by rw [← hA];exact iv_nz.2 h)
  by_cases h1:p1=0
  · subst h1
    by_cases h2:p2=0
    · subst h2
      exact raxis_k2 t p0 p3 A B w g hq hi hz hp hA hb ⟨by omega,by omega,by omega⟩ hB (fun h=>n0 ⟨rfl,rfl,h⟩) hnz
    · exact raxis_k1 t p0 p2 p3 A B w g hq hi hz hp hA hb ⟨by omega,by omega,by omega⟩ hB h2 hnz
  · exact raxis_k0 t p0 p1 p2 p3 A B w g hq hi hz hp hA hb ⟨by omega,by omega,by omega⟩ hB h1 hnz
theorem raxis_none (t p:Q4) (w:World) (g:Gd w) (hq:QErr t 0) (hi:Q4In t) (hz:¬ t.zero) (hp:prim4 t=p) (hn:p.x=0∧p.y=0∧p.z=0):Calls Tryz.prog 32 #[.agg #[.int .i64 t.w,.int .i64 t.x,.int .i64 t.y,.int .i64 t.z]] w (Ret w (.tuple #[.agg #[.string ⟨#[]⟩,.string ⟨#[]⟩,.string ⟨#[]⟩],.int .i64 19])):=by
  obtain ⟨p0,p1,p2,p3⟩:=p
  obtain ⟨h1,h2,h3⟩:=hn
  simp only at h1 h2 h3
  subst h1;subst h2;subst h3
  exact raxis_k3 t p0 w g hq hi hz hp
theorem tdiv_s {n m:Int} (h:-20≤n∧n≤20):-20≤n.tdiv m∧n.tdiv m≤20:=by
  have h1:(n.tdiv m).natAbs≤n.natAbs:=by rw [Int.natAbs_tdiv];exact Nat.div_le_self _ _
  omega
theorem prim4_s {t:Q4} (h:Q4S t):Q4S (prim4 t):=⟨tdiv_s h.w,tdiv_s h.x,tdiv_s h.y,tdiv_s h.z⟩
theorem rot_qbS {t:Q4} {v:V3} {k:Nat} (h:Q4S t) (hz:¬ t.zero) (hv:VB k v):VB (3*(4+k)+4) (rot t v):=by
  have hp:=norm4_pos hz
  have p:∀ {a b:Int},(-20≤a∧a≤20)→(-20≤b∧b≤20)→-400≤a*b∧a*b≤400:=fun {a b} ha hb=>by
    have h:(a*b).natAbs≤20*20:=by rw [Int.natAbs_mul];exact Nat.mul_le_mul (by omega) (by omega)
    omega
  have ww:=p h.w h.w;have xx:=p h.x h.x;have yy:=p h.y h.y;have zz:=p h.z h.z
  have xy:=p h.x h.y;have wz:=p h.w h.z;have xz:=p h.x h.z;have wy:=p h.w h.y;have yz:=p h.y h.z;have wx:=p h.w h.x
  have hn:norm4 t≤1600:=by unfold norm4;omega
  have e:∀ n:Int,-3200≤n→n≤3200→QB 4 (fr n (norm4 t)):=fun n h1 h2=>qb_fr hp (by omega) (by omega)
  have r1:VB 4 (row1 t):=⟨e _ (by omega) (by omega),e _ (by omega) (by omega),e _ (by omega) (by omega)⟩
  have r2:VB 4 (row2 t):=⟨e _ (by omega) (by omega),e _ (by omega) (by omega),e _ (by omega) (by omega)⟩
  have r3:VB 4 (row3 t):=⟨e _ (by omega) (by omega),e _ (by omega) (by omega),e _ (by omega) (by omega)⟩
  exact ⟨dot3_qb r1 hv,dot3_qb r2 hv,dot3_qb r3 hv⟩
end Go.Proofs.YtjeimihnoiephaaGreatDoor

namespace Go.Proofs.YtjeimihnoiephaaGreatDoor
open Go Go.RowKit
set_option linter.unusedVariables false
theorem lc_nat (a b:Nat):lc (a:Int) (b:Int)=((Nat.lcm a b:Nat):Int):=by
  unfold lc Nat.lcm
  rw [Int.gcd_natCast_natCast,← Int.natCast_ediv,← Int.natCast_mul,Nat.mul_div_assoc _ (Nat.gcd_dvd_right a b)]
theorem lc_dvd_of {a b m:Int} (ha:0≤a) (hb:0≤b) (h1:a∣m) (h2:b∣m):lc a b∣m:=by
  obtain ⟨A,rfl⟩:=Int.eq_ofNat_of_zero_le ha
  obtain ⟨B,rfl⟩:=Int.eq_ofNat_of_zero_le hb
  show lc (A:Int) (B:Int)∣m
  rw [lc_nat]
  have h3:A∣m.natAbs:=Int.ofNat_dvd_left.1 h1
  have h4:B∣m.natAbs:=Int.ofNat_dvd_left.1 h2
  exact Int.ofNat_dvd_left.2 (Nat.lcm_dvd h3 h4)
theorem den4_dvd {x y z u:Rat} {m:Int} (hx:(x.den:Int)∣m) (hy:(y.den:Int)∣m) (hz:(z.den:Int)∣m) (hu:(u.den:Int)∣m):den4 x y z u∣m:=by
  have e:∀ q:Rat,(0:Int)≤(q.den:Int):=fun q=>by omega
  unfold den4
  exact lc_dvd_of (Int.le_of_lt (den4_3 x y z)) (e u) (lc_dvd_of (Int.le_of_lt (den4_2 x y)) (e z) (lc_dvd_of (Int.le_of_lt (den4_1 x)) (e y) (lc_dvd_of (by decide) (e x) (Int.one_dvd m) hx) hy) hz) hu
theorem den_dvd5 (n:Int):(((n:Rat) / 5:Rat).den:Int)∣5:=by
  have h:(n:Rat) / 5=mkRat n 5:=by rw [Rat.mkRat_eq_div];rfl
  rw [h,Rat.den_mkRat]
  split
  · exact Int.one_dvd 5
  · exact Int.ofNat_dvd.2 (Nat.div_dvd_of_dvd (Nat.gcd_dvd_left _ _))
def pyv (i k:Int):V3:=⟨((8*(i*k):Int):Rat) / 5,((6*(i*k):Int):Rat) / 5,((i*i-k*k:Int):Rat)⟩
theorem py_rot (i k:Int):rot ⟨3,0,0,1⟩ (iv (2*i*k) 0 (i*i-k*k))=pyv i k:=by
  rw [rot_eq (by rintro ⟨h,_⟩;exact absurd h (by decide))]
  unfold rotQ iv pyv
  simp only [V3.mk.injEq,Rat.intCast_mul,Rat.intCast_sub]
  have h0:((0:Int):Rat)=0:=rfl
  have h1:((1:Int):Rat)=1:=rfl
  have h2:((2:Int):Rat)=2:=rfl
  have h3:((3:Int):Rat)=3:=rfl
  have h6:((6:Int):Rat)=6:=rfl
  have h8:((8:Int):Rat)=8:=rfl
  simp only [h0,h1,h2,h3,h6,h8]
  refine ⟨?_,?_,?_⟩ <;> grind
theorem py_sq (i k:Int):((i*i+k*k:Int):Rat)*((i*i+k*k:Int):Rat)=(pyv i k).x*(pyv i k).x+(pyv i k).y*(pyv i k).y+(pyv i k).z*(pyv i k).z:=by
  unfold pyv
  simp only [Rat.intCast_mul,Rat.intCast_sub,Rat.intCast_add]
  have h6:((6:Int):Rat)=6:=rfl
  have h8:((8:Int):Rat)=8:=rfl
  simp only [h6,h8]
  grind
theorem py_w (i k:Int):((i*i+k*k:Int):Rat)+(pyv i k).z=((2*(i*i):Int):Rat):=by
  unfold pyv
  rw [← Rat.intCast_add]
  congr 1
  omega
theorem py_up {i k:Int} (hi:i≠0):rot (prim4 (num4 ((2*(i*i):Int):Rat) (pyv i k).y (-(pyv i k).x) 0)) (pyv i k)=iv 0 0 (i*i+k*k):=by
  have hw:0<2*(i*i):=by have:=sqi_pos hi;omega
  have hwq:(0:Rat)<((2*(i*i):Int):Rat):=Rat.intCast_pos.2 hw
  have hs:((2*(i*i):Int):Rat)*((2*(i*i):Int):Rat)+(pyv i k).y*(pyv i k).y+-(pyv i k).x * -(pyv i k).x+0*0≠0:=by
    have h1:=Rat.mul_pos hwq hwq
    have h2:=sq_nonneg' (pyv i k).y
    have h3:=sq_nonneg' (-(pyv i k).x)
    grind
  rw [rot_num4 (num4_nz (fun h=>absurd h.1 (Rat.ne_of_gt hwq))) hs]
  rw [← py_w i k] at hs ⊢
  have e:=rotQ_up (py_sq i k) hs
  have h0:((0:Int):Rat)=0:=rfl
  unfold iv
  rw [h0]
  exact e
theorem py_flip (k:Int):rot ⟨0,1,0,0⟩ (pyv 0 k)=iv 0 0 (0*0+k*k):=by
  rw [rot_eq (by rintro ⟨_,h,_⟩;exact absurd h (by decide))]
  unfold rotQ iv pyv
  simp only [V3.mk.injEq,Rat.intCast_mul,Rat.intCast_sub,Rat.intCast_add]
  have h0:((0:Int):Rat)=0:=rfl
  have h1:((1:Int):Rat)=1:=rfl
  have h6:((6:Int):Rat)=6:=rfl
  have h8:((8:Int):Rat)=8:=rfl
  simp only [h0,h1,h6,h8]
  refine ⟨?_,?_,?_⟩ <;> grind
theorem mul9 {i k:Int} (hi:-9≤i∧i≤9) (hk:-9≤k∧k≤9):-81≤i*k∧i*k≤81:=by
  have h:(i*k).natAbs≤9*9:=by rw [Int.natAbs_mul];exact Nat.mul_le_mul (by omega) (by omega)
  omega
theorem py_in {i k:Int} (hi:-9≤i∧i≤9) (hk:-9≤k∧k≤9):Q4In (prim4 (num4 ((2*(i*i):Int):Rat) (pyv i k).y (-(pyv i k).x) 0)):=by
  apply prim4_in
  have hii:=mul9 hi hi
  have hik:=mul9 hi hk
  have hd:den4 ((2*(i*i):Int):Rat) (pyv i k).y (-(pyv i k).x) 0∣5:=by
    refine den4_dvd ?_ (den_dvd5 _) ?_ ?_
    · rw [Rat.den_intCast];exact Int.one_dvd 5
    · rw [show (-(pyv i k).x).den=(pyv i k).x.den from rfl];exact den_dvd5 _
    · exact Int.one_dvd 5
  have hle:den4 ((2*(i*i):Int):Rat) (pyv i k).y (-(pyv i k).x) 0≤5:=Int.le_of_dvd (by decide) hd
  have hp:=den4_pos ((2*(i*i):Int):Rat) (pyv i k).y (-(pyv i k).x) 0
  have ew:=num4_w ((2*(i*i):Int):Rat) (pyv i k).y (-(pyv i k).x) 0
  have ex:=num4_x ((2*(i*i):Int):Rat) (pyv i k).y (-(pyv i k).x) 0
  have ey:=num4_y ((2*(i*i):Int):Rat) (pyv i k).y (-(pyv i k).x) 0
  have ez:=num4_z ((2*(i*i):Int):Rat) (pyv i k).y (-(pyv i k).x) 0
  generalize num4 ((2*(i*i):Int):Rat) (pyv i k).y (-(pyv i k).x) 0=N at *
  generalize den4 ((2*(i*i):Int):Rat) (pyv i k).y (-(pyv i k).x) 0=D at *
  have m5:∀ {a:Int},-648≤a∧a≤648→-3240≤a*D∧a*D≤3240:=fun {a} h=>by
    have h1:(a*D).natAbs≤648*5:=by rw [Int.natAbs_mul];exact Nat.mul_le_mul (by omega) (by omega)
    omega
  have h5:∀ {a n:Int},((a:Rat) / 5)*(D:Rat)=(n:Rat)→a*D=5*n:=fun {a n} h=>by
    apply Rat.intCast_inj.1
    rw [Rat.intCast_mul,Rat.intCast_mul,show ((5:Int):Rat)=5 from rfl,← h]
    grind
  have hw:2*(i*i)*D=N.w:=by
    apply Rat.intCast_inj.1
    rw [Rat.intCast_mul];exact ew
  have hx:6*(i*k)*D=5*N.x:=h5 ex
  have hy:-(8*(i*k))*D=5*N.y:=h5 (by
    rw [← ey]
    unfold pyv
    simp only [Rat.intCast_neg]
    grind)
  have hz:N.z=0:=by
    have e:(0:Rat)=(N.z:Rat):=by rw [← ez];grind
    exact Rat.intCast_eq_zero_iff.1 e.symm
  have b1:=m5 (a:=2*(i*i)) (by omega)
  have b2:=m5 (a:=6*(i*k)) (by omega)
  have b3:=m5 (a:=-(8*(i*k))) (by omega)
  exact ⟨by omega,by omega,by omega,by omega⟩
theorem py_vb {i k:Int} (hi:-9≤i∧i≤9) (hk:-9≤k∧k≤9):VB 25 (pyv i k):=by
  rw [← py_rot]
  have hii:=mul9 hi hi;have hik:=mul9 hi hk;have hkk:=mul9 hk hk
  have e:2*i*k=2*(i*k):=Int.mul_assoc 2 i k
  have hv:VB 3 (iv (2*i*k) 0 (i*i-k*k)):=by
    rw [e]
    exact ⟨QB.int ⟨by omega⟩ (by decide),QB.int ⟨by decide⟩ (by decide),QB.int ⟨by omega⟩ (by decide)⟩
  exact rot_qbS (t:=⟨3,0,0,1⟩) ⟨by decide,by decide,by decide,by decide⟩ (by rintro ⟨h,_⟩;exact absurd h (by decide)) hv
theorem py_x {i k:Int} (hi:i≠0) (hk:k≠0):(pyv i k).x≠0:=by
  unfold pyv
  have h8:((8*(i*k):Int):Rat)≠0:=fun e=>by
    have:=Rat.intCast_eq_zero_iff.1 e
    have h2:i*k=0:=by omega
    rcases Int.mul_eq_zero.1 h2 with h|h
    · exact hi h
    · exact hk h
  intro e
  simp only at e
  apply h8
  grind
theorem py_0 {i k:Int} (h:i*k=0):(pyv i k).x=0∧(pyv i k).y=0:=by
  unfold pyv
  rw [h]
  have h0:((8*0:Int):Rat)=0:=rfl
  have h1:((6*0:Int):Rat)=0:=rfl
  simp only [h0,h1]
  constructor <;> grind
theorem axis_stays {t p:Q4} {A B:V3} (hz:¬ t.zero) (hp:prim4 t=p) (hA:iv p.x p.y p.z=A) (hB:vprim A=B) (hnz:¬ (A.x=0∧A.y=0∧A.z=0)):rot t B=B:=by
  obtain ⟨X,Y,Z,e,hd,hne,c,hc,hs⟩:=vprim_int A hnz
  have hB':B=⟨(p.x:Rat)*c,(p.y:Rat)*c,(p.z:Rat)*c⟩:=by
    rw [← hB,hs,← hA]
    rfl
  rw [hB',← rot_prim hz,hp]
  exact rot_axis (by rw [← hp];exact prim4_nz hz) c
theorem vprim_vb2 {A:V3} (hnz:¬ (A.x=0∧A.y=0∧A.z=0)) (ha:VB 2 A):VB 18 (vprim A):=by
  obtain ⟨X,Y,Z,e,hd,hne,c,hc,hs⟩:=vprim_int A hnz
  have pd:=IB.pden ha
  have w0:VB 9 (vwhole A):=⟨(ha.x.mul (QB.int pd (by decide))).mono (by decide),(ha.y.mul (QB.int pd (by decide))).mono (by decide),(ha.z.mul (QB.int pd (by decide))).mono (by decide)⟩
  have pn:=IB.pnum w0
  have q1:=QB.mk1 hne pn (by decide)
  exact ⟨(w0.x.mul q1).mono (by decide),(w0.y.mul q1).mono (by decide),(w0.z.mul q1).mono (by decide)⟩
end Go.Proofs.YtjeimihnoiephaaGreatDoor
