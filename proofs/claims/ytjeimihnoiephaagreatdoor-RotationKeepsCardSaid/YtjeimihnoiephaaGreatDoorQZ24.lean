/- Part 24 of the proof: B6, B7, C1, C2, B9, C3, V0, C4, V1, C6, C7, V2, V3, V4, V6. -/
import Derived.Test.YtjeimihnoiephaaGreatDoorQZ23
import Derived.Handy
set_option maxRecDepth 100000
namespace Go.Proofs.YtjeimihnoiephaaGreatDoor
open Go Go.RowKit
structure V3 where
  x:Rat
  y:Rat
  z:Rat
deriving DecidableEq

abbrev vv (v:V3):Value:=.agg #[.string (qs v.x),.string (qs v.y),.string (qs v.z)]

structure P2 where
  x:Rat
  y:Rat
deriving DecidableEq

abbrev pv (p:P2):Value:=.agg #[.string (qs p.x),.string (qs p.y)]

structure PB (k:Nat) (p:P2):Prop where
  x:QB k p.x
  y:QB k p.y

def vadd (a b:V3):V3:=⟨a.x+b.x,a.y+b.y,a.z+b.z⟩
def vsub (a b:V3):V3:=⟨a.x-b.x,a.y-b.y,a.z-b.z⟩
def vscale (a:V3) (k:Rat):V3:=⟨a.x*k,a.y*k,a.z*k⟩
def vdot (a b:V3):Rat:=a.x*b.x+(a.y*b.y+a.z*b.z)
def vcross (a b:V3):V3:=⟨a.y*b.z-a.z*b.y,a.z*b.x-a.x*b.z,a.x*b.y-a.y*b.x⟩
structure VB (k:Nat) (v:V3):Prop where
  x:QB k v.x
  y:QB k v.y
  z:QB k v.z

theorem VB.add {k m:Nat} {a b:V3} (h:VB k a) (h2:VB m b):VB (k+m+1) (vadd a b):=⟨h.x.add h2.x,h.y.add h2.y,h.z.add h2.z⟩
theorem VB.sub {k m:Nat} {a b:V3} (h:VB k a) (h2:VB m b):VB (k+m+1) (vsub a b):=⟨h.x.sub h2.x,h.y.sub h2.y,h.z.sub h2.z⟩
theorem VB.scale {k m:Nat} {a:V3} {q:Rat} (h:VB k a) (h2:QB m q):VB (k+m) (vscale a q):=⟨h.x.mul h2,h.y.mul h2,h.z.mul h2⟩
theorem VB.dot {k m:Nat} {a b:V3} (h:VB k a) (h2:VB m b):QB (k+m+(k+m+(k+m)+1)+1) (vdot a b):=(h.x.mul h2.x).add ((h.y.mul h2.y).add (h.z.mul h2.z))
theorem VB.cross {k m:Nat} {a b:V3} (h:VB k a) (h2:VB m b):VB (k+m+(k+m)+1) (vcross a b):=⟨(h.y.mul h2.z).sub (h.z.mul h2.y),(h.z.mul h2.x).sub (h.x.mul h2.z),(h.x.mul h2.y).sub (h.y.mul h2.x)⟩

theorem keepsH2 {w w':World} (e:Ext w w') {b0 o0 b1 o1:Nat} {x0 x1:Value} (h:w.cell? ⟨b0,o0,none⟩=some x0∧w.cell? ⟨b1,o1,none⟩=some x1):w'.cell? ⟨b0,o0,none⟩=some x0∧w'.cell? ⟨b1,o1,none⟩=some x1 :=
  ⟨e.keeps h.1,e.keeps h.2⟩

theorem keepsH3 {w w':World} (e:Ext w w') {b0 o0 b1 o1 b2 o2:Nat} {x0 x1 x2:Value} (h:w.cell? ⟨b0,o0,none⟩=some x0∧w.cell? ⟨b1,o1,none⟩=some x1∧w.cell? ⟨b2,o2,none⟩=some x2):w'.cell? ⟨b0,o0,none⟩=some x0∧w'.cell? ⟨b1,o1,none⟩=some x1∧w'.cell? ⟨b2,o2,none⟩=some x2 :=
  ⟨e.keeps h.1,e.keeps h.2.1,e.keeps h.2.2⟩

theorem keepsH6 {w w':World} (e:Ext w w') {b0 o0 b1 o1 b2 o2 b3 o3 b4 o4 b5 o5:Nat} {x0 x1 x2 x3 x4 x5:Value} (h:w.cell? ⟨b0,o0,none⟩=some x0∧w.cell? ⟨b1,o1,none⟩=some x1∧w.cell? ⟨b2,o2,none⟩=some x2∧w.cell? ⟨b3,o3,none⟩=some x3∧w.cell? ⟨b4,o4,none⟩=some x4∧w.cell? ⟨b5,o5,none⟩=some x5):w'.cell? ⟨b0,o0,none⟩=some x0∧w'.cell? ⟨b1,o1,none⟩=some x1∧w'.cell? ⟨b2,o2,none⟩=some x2∧w'.cell? ⟨b3,o3,none⟩=some x3∧w'.cell? ⟨b4,o4,none⟩=some x4∧w'.cell? ⟨b5,o5,none⟩=some x5 :=
  ⟨e.keeps h.1,e.keeps h.2.1,e.keeps h.2.2.1,e.keeps h.2.2.2.1,e.keeps h.2.2.2.2.1,e.keeps h.2.2.2.2.2⟩

set_option maxHeartbeats 2000000 in
theorem sadd_c (a b:V3) {k m:Nat} (w:World) (g:Gd w) (ha:VB k a) (hb:VB m b) (hk:k≤1000) (hm:m≤1000):Calls Tryz.prog 68 #[vv a,vv b] w (Ret w (vv (vadd a b))):=by
  have HA:=Lib.hid ha
  have HB:=Lib.hid hb
  have HG:=Lib.hid g
  clear ha hb g
  go_enter Tryz.func68,Tryz.ntmps68
  go_wp2_with fail
  obtain ⟨W,hW⟩:∃ W,((w.alloc (.cells #[.string (qs a.x),.string (qs a.y),.string (qs a.z)] 31)).alloc (.cells #[.string (qs b.x),.string (qs b.y),.string (qs b.z)] 31))=W:=⟨_,rfl⟩
  have b0:Blk W (w.heap.size) #[.string (qs a.x),.string (qs a.y),.string (qs a.z)] 31:=by rw [← hW];have:=((Blk.new w #[.string (qs a.x),.string (qs a.y),.string (qs a.z)] 31).alloc (.cells #[.string (qs b.x),.string (qs b.y),.string (qs b.z)] 31));simpa using this
  have b1:Blk W (w.heap.size+1) #[.string (qs b.x),.string (qs b.y),.string (qs b.z)] 31:=by rw [← hW];have:=(Blk.new (w.alloc (.cells #[.string (qs a.x),.string (qs a.y),.string (qs a.z)] 31)) #[.string (qs b.x),.string (qs b.y),.string (qs b.z)] 31);simpa using this
  have ew:Ext w W:=by rw [← hW];exact (((Ext.refl _).alloc _).alloc _)
  have hsz:W.heap.size=w.heap.size+1+1:=by rw [← hW];simp
  rw [hW]
  have hc:W.cell? ⟨w.heap.size,0,none⟩=some (.string (qs a.x))∧W.cell? ⟨w.heap.size,1,none⟩=some (.string (qs a.y))∧W.cell? ⟨w.heap.size,2,none⟩=some (.string (qs a.z))∧W.cell? ⟨w.heap.size+1,0,none⟩=some (.string (qs b.x))∧W.cell? ⟨w.heap.size+1,1,none⟩=some (.string (qs b.y))∧W.cell? ⟨w.heap.size+1,2,none⟩=some (.string (qs b.z)) :=
    ⟨b0.cell 0 rfl,b0.cell 1 rfl,b0.cell 2 rfl,b1.cell 0 rfl,b1.cell 1 rfl,b1.cell 2 rfl⟩
  have HC:=Lib.hid hc;have HEW:=Lib.hid ew
  have BR:Blk (W.alloc (.cells #[.string ⟨#[]⟩,.string ⟨#[]⟩,.string ⟨#[]⟩] 31)) (w.heap.size+1+1) #[.string ⟨#[]⟩,.string ⟨#[]⟩,.string ⟨#[]⟩] 31:=by rw [← hsz];exact Blk.new W _ _
  have HBR:=Lib.hid BR
  clear BR
  clear hW b0 b1 ew hc
  go_region_held3 (fun w'=>w'.cell? ⟨w.heap.size,0,none⟩=some (.string (qs a.x))∧w'.cell? ⟨w.heap.size,1,none⟩=some (.string (qs a.y))∧w'.cell? ⟨w.heap.size,2,none⟩=some (.string (qs a.z))∧w'.cell? ⟨w.heap.size+1,0,none⟩=some (.string (qs b.x))∧w'.cell? ⟨w.heap.size+1,1,none⟩=some (.string (qs b.y))∧w'.cell? ⟨w.heap.size+1,2,none⟩=some (.string (qs b.z)))
    (exact keepsH6 (by repeat (first|assumption|exact Ext.refl _|apply Ext.drew|apply Ext.alloc|(refine Ext.setCell ?_ (by simp only [];omega) _)|(refine Ext.trans ?_ (by assumption)))) HC.out) (first
    | (go_at_call 123;((with_reducible refine (fqadd_c a.x b.x _ (HG.out.ext (HEW.out.trans (by repeat (first|assumption|exact Ext.refl _|apply Ext.drew|apply Ext.alloc|(refine Ext.setCell ?_ (by simp only [];omega) _)|(refine Ext.trans ?_ (by assumption)))))) HA.out.x HB.out.x (by omega) (by omega)).mono ?_);rintro e w1 ⟨rfl,e1⟩))
    | (go_at_call 123;((with_reducible refine (fqadd_c a.y b.y _ (HG.out.ext (HEW.out.trans (by repeat (first|assumption|exact Ext.refl _|apply Ext.drew|apply Ext.alloc|(refine Ext.setCell ?_ (by simp only [];omega) _)|(refine Ext.trans ?_ (by assumption)))))) HA.out.y HB.out.y (by omega) (by omega)).mono ?_);rintro e w2 ⟨rfl,e2⟩))
    | (go_at_call 123;((with_reducible refine (fqadd_c a.z b.z _ (HG.out.ext (HEW.out.trans (by repeat (first|assumption|exact Ext.refl _|apply Ext.drew|apply Ext.alloc|(refine Ext.setCell ?_ (by simp only [];omega) _)|(refine Ext.trans ?_ (by assumption)))))) HA.out.z HB.out.z (by omega) (by omega)).mono ?_);rintro e w3 ⟨rfl,e3⟩;have R:Blk w3 _ _ _:=HBR.out.ext (by repeat (first|assumption|exact Ext.refl _|apply Ext.drew|(refine Ext.trans ?_ (by assumption))));have c0:=R.cell 0 rfl;have f0:=R.free 0;have c1:=R.cell 1 rfl;have f1:=R.free 1;have c2:=R.cell 2 rfl;have f2:=R.free 2;have HR:=Lib.hid R;clear R)))
  all_goals go_wp2
  have R3:=(((HR.out.set 0 (.string (qs (a.x+b.x)))).set 1 (.string (qs (a.y+b.y)))).set 2 (.string (qs (a.z+b.z))))
  have ex:Ext w (((w3.setCell ⟨w.heap.size+1+1,0,none⟩ (.string (qs (a.x+b.x)))).setCell ⟨w.heap.size+1+1,1,none⟩ (.string (qs (a.y+b.y)))).setCell ⟨w.heap.size+1+1,2,none⟩ (.string (qs (a.z+b.z)))):=HEW.out.trans (by repeat (first|assumption|exact Ext.refl _|apply Ext.drew|apply Ext.alloc|(refine Ext.setCell ?_ (by simp only [];omega) _)|(refine Ext.trans ?_ (by assumption))))
  have g0:=R3.cell 0 rfl;have g1:=R3.cell 1 rfl;have g2:=R3.cell 2 rfl
  clear R3 c0 f0 c1 f1 c2 f2
  generalize (((w3.setCell ⟨w.heap.size+1+1,0,none⟩ (.string (qs (a.x+b.x)))).setCell ⟨w.heap.size+1+1,1,none⟩ (.string (qs (a.y+b.y)))).setCell ⟨w.heap.size+1+1,2,none⟩ (.string (qs (a.z+b.z))))=W' at *
  refine bodyPost_ret (v:=.agg #[.string (qs (a.x+b.x)),.string (qs (a.y+b.y)),.string (qs (a.z+b.z))]) (by simp [results,Tryz.results68,go_sem,g0,g1,g2]) rfl ⟨rfl,ex⟩

set_option maxHeartbeats 2000000 in
theorem sscale_c (a:V3) (q:Rat) {k m:Nat} (w:World) (g:Gd w) (ha:VB k a) (hq:QB m q) (hk:k≤1000) (hm:m≤1000):Calls Tryz.prog 17 #[vv a,.string (qs q)] w (Ret w (vv (vscale a q))):=by
  have HA:=Lib.hid ha
  have HQ:=Lib.hid hq
  have HG:=Lib.hid g
  clear ha hq g
  go_enter Tryz.func17,Tryz.ntmps17
  go_wp2_with fail
  obtain ⟨W,hW⟩:∃ W,(w.alloc (.cells #[.string (qs a.x),.string (qs a.y),.string (qs a.z)] 31))=W:=⟨_,rfl⟩
  have b0:Blk W (w.heap.size) #[.string (qs a.x),.string (qs a.y),.string (qs a.z)] 31:=by rw [← hW];have:=(Blk.new w #[.string (qs a.x),.string (qs a.y),.string (qs a.z)] 31);simpa using this
  have ew:Ext w W:=by rw [← hW];exact ((Ext.refl _).alloc _)
  have hsz:W.heap.size=w.heap.size+1:=by rw [← hW];simp
  rw [hW]
  have hc:W.cell? ⟨w.heap.size,0,none⟩=some (.string (qs a.x))∧W.cell? ⟨w.heap.size,1,none⟩=some (.string (qs a.y))∧W.cell? ⟨w.heap.size,2,none⟩=some (.string (qs a.z)) :=
    ⟨b0.cell 0 rfl,b0.cell 1 rfl,b0.cell 2 rfl⟩
  have HC:=Lib.hid hc;have HEW:=Lib.hid ew
  have BR:Blk (W.alloc (.cells #[.string ⟨#[]⟩,.string ⟨#[]⟩,.string ⟨#[]⟩] 31)) (w.heap.size+1) #[.string ⟨#[]⟩,.string ⟨#[]⟩,.string ⟨#[]⟩] 31:=by rw [← hsz];exact Blk.new W _ _
  have HBR:=Lib.hid BR
  clear BR
  clear hW b0 ew hc
  go_region_held3 (fun w'=>w'.cell? ⟨w.heap.size,0,none⟩=some (.string (qs a.x))∧w'.cell? ⟨w.heap.size,1,none⟩=some (.string (qs a.y))∧w'.cell? ⟨w.heap.size,2,none⟩=some (.string (qs a.z)))
    (exact keepsH3 (by repeat (first|assumption|exact Ext.refl _|apply Ext.drew|apply Ext.alloc|(refine Ext.setCell ?_ (by simp only [];omega) _)|(refine Ext.trans ?_ (by assumption)))) HC.out) (first
    | (go_at_call 52;((with_reducible refine (fqmul_c a.x q _ (HG.out.ext (HEW.out.trans (by repeat (first|assumption|exact Ext.refl _|apply Ext.drew|apply Ext.alloc|(refine Ext.setCell ?_ (by simp only [];omega) _)|(refine Ext.trans ?_ (by assumption)))))) HA.out.x HQ.out (by omega) (by omega)).mono ?_);rintro e w1 ⟨rfl,e1⟩))
    | (go_at_call 52;((with_reducible refine (fqmul_c a.y q _ (HG.out.ext (HEW.out.trans (by repeat (first|assumption|exact Ext.refl _|apply Ext.drew|apply Ext.alloc|(refine Ext.setCell ?_ (by simp only [];omega) _)|(refine Ext.trans ?_ (by assumption)))))) HA.out.y HQ.out (by omega) (by omega)).mono ?_);rintro e w2 ⟨rfl,e2⟩))
    | (go_at_call 52;((with_reducible refine (fqmul_c a.z q _ (HG.out.ext (HEW.out.trans (by repeat (first|assumption|exact Ext.refl _|apply Ext.drew|apply Ext.alloc|(refine Ext.setCell ?_ (by simp only [];omega) _)|(refine Ext.trans ?_ (by assumption)))))) HA.out.z HQ.out (by omega) (by omega)).mono ?_);rintro e w3 ⟨rfl,e3⟩;have R:Blk w3 _ _ _:=HBR.out.ext (by repeat (first|assumption|exact Ext.refl _|apply Ext.drew|(refine Ext.trans ?_ (by assumption))));have c0:=R.cell 0 rfl;have f0:=R.free 0;have c1:=R.cell 1 rfl;have f1:=R.free 1;have c2:=R.cell 2 rfl;have f2:=R.free 2;have HR:=Lib.hid R;clear R)))
  all_goals go_wp2
  have R3:=(((HR.out.set 0 (.string (qs (a.x*q)))).set 1 (.string (qs (a.y*q)))).set 2 (.string (qs (a.z*q))))
  have ex:Ext w (((w3.setCell ⟨w.heap.size+1,0,none⟩ (.string (qs (a.x*q)))).setCell ⟨w.heap.size+1,1,none⟩ (.string (qs (a.y*q)))).setCell ⟨w.heap.size+1,2,none⟩ (.string (qs (a.z*q)))):=HEW.out.trans (by repeat (first|assumption|exact Ext.refl _|apply Ext.drew|apply Ext.alloc|(refine Ext.setCell ?_ (by simp only [];omega) _)|(refine Ext.trans ?_ (by assumption))))
  have g0:=R3.cell 0 rfl;have g1:=R3.cell 1 rfl;have g2:=R3.cell 2 rfl
  clear R3 c0 f0 c1 f1 c2 f2
  generalize (((w3.setCell ⟨w.heap.size+1,0,none⟩ (.string (qs (a.x*q)))).setCell ⟨w.heap.size+1,1,none⟩ (.string (qs (a.y*q)))).setCell ⟨w.heap.size+1,2,none⟩ (.string (qs (a.z*q))))=W' at *
  refine bodyPost_ret (v:=.agg #[.string (qs (a.x*q)),.string (qs (a.y*q)),.string (qs (a.z*q))]) (by simp [results,Tryz.results17,go_sem,g0,g1,g2]) rfl ⟨rfl,ex⟩

set_option maxHeartbeats 2000000 in
theorem sdot_c (a b:V3) {k m:Nat} (w:World) (g:Gd w) (ha:VB k a) (hb:VB m b) (hk:k≤700) (hm:m≤700):Calls Tryz.prog 67 #[vv a,vv b] w (Ret w (.string (qs (vdot a b)))):=by
  have HA:=Lib.hid ha
  have HB:=Lib.hid hb
  have HG:=Lib.hid g
  clear ha hb g
  go_enter Tryz.func67,Tryz.ntmps67
  go_wp2_with fail
  obtain ⟨W,hW⟩:∃ W,((w.alloc (.cells #[.string (qs a.x),.string (qs a.y),.string (qs a.z)] 31)).alloc (.cells #[.string (qs b.x),.string (qs b.y),.string (qs b.z)] 31))=W:=⟨_,rfl⟩
  have b0:Blk W (w.heap.size) #[.string (qs a.x),.string (qs a.y),.string (qs a.z)] 31:=by rw [← hW];have:=((Blk.new w #[.string (qs a.x),.string (qs a.y),.string (qs a.z)] 31).alloc (.cells #[.string (qs b.x),.string (qs b.y),.string (qs b.z)] 31));simpa using this
  have b1:Blk W (w.heap.size+1) #[.string (qs b.x),.string (qs b.y),.string (qs b.z)] 31:=by rw [← hW];have:=(Blk.new (w.alloc (.cells #[.string (qs a.x),.string (qs a.y),.string (qs a.z)] 31)) #[.string (qs b.x),.string (qs b.y),.string (qs b.z)] 31);simpa using this
  have ew:Ext w W:=by rw [← hW];exact (((Ext.refl _).alloc _).alloc _)
  have hsz:W.heap.size=w.heap.size+1+1:=by rw [← hW];simp
  rw [hW]
  have hc:W.cell? ⟨w.heap.size,0,none⟩=some (.string (qs a.x))∧W.cell? ⟨w.heap.size,1,none⟩=some (.string (qs a.y))∧W.cell? ⟨w.heap.size,2,none⟩=some (.string (qs a.z))∧W.cell? ⟨w.heap.size+1,0,none⟩=some (.string (qs b.x))∧W.cell? ⟨w.heap.size+1,1,none⟩=some (.string (qs b.y))∧W.cell? ⟨w.heap.size+1,2,none⟩=some (.string (qs b.z)) :=
    ⟨b0.cell 0 rfl,b0.cell 1 rfl,b0.cell 2 rfl,b1.cell 0 rfl,b1.cell 1 rfl,b1.cell 2 rfl⟩
  have HC:=Lib.hid hc;have HEW:=Lib.hid ew
  clear hW b0 b1 ew hc
  go_region_held3 (fun w'=>w'.cell? ⟨w.heap.size,0,none⟩=some (.string (qs a.x))∧w'.cell? ⟨w.heap.size,1,none⟩=some (.string (qs a.y))∧w'.cell? ⟨w.heap.size,2,none⟩=some (.string (qs a.z))∧w'.cell? ⟨w.heap.size+1,0,none⟩=some (.string (qs b.x))∧w'.cell? ⟨w.heap.size+1,1,none⟩=some (.string (qs b.y))∧w'.cell? ⟨w.heap.size+1,2,none⟩=some (.string (qs b.z)))
    (exact keepsH6 (by repeat (first|assumption|exact Ext.refl _|apply Ext.drew|apply Ext.alloc|(refine Ext.setCell ?_ (by simp only [];omega) _)|(refine Ext.trans ?_ (by assumption)))) HC.out) (first
    | (go_at_call 52;((with_reducible refine (fqmul_c a.x b.x _ (HG.out.ext (HEW.out.trans (by repeat (first|assumption|exact Ext.refl _|apply Ext.drew|apply Ext.alloc|(refine Ext.setCell ?_ (by simp only [];omega) _)|(refine Ext.trans ?_ (by assumption)))))) HA.out.x HB.out.x (by omega) (by omega)).mono ?_);rintro e w1 ⟨rfl,e1⟩))
    | (go_at_call 52;((with_reducible refine (fqmul_c a.y b.y _ (HG.out.ext (HEW.out.trans (by repeat (first|assumption|exact Ext.refl _|apply Ext.drew|apply Ext.alloc|(refine Ext.setCell ?_ (by simp only [];omega) _)|(refine Ext.trans ?_ (by assumption)))))) HA.out.y HB.out.y (by omega) (by omega)).mono ?_);rintro e w2 ⟨rfl,e2⟩))
    | (go_at_call 52;((with_reducible refine (fqmul_c a.z b.z _ (HG.out.ext (HEW.out.trans (by repeat (first|assumption|exact Ext.refl _|apply Ext.drew|apply Ext.alloc|(refine Ext.setCell ?_ (by simp only [];omega) _)|(refine Ext.trans ?_ (by assumption)))))) HA.out.z HB.out.z (by omega) (by omega)).mono ?_);rintro e w3 ⟨rfl,e3⟩))
    | (go_at_call 123;((with_reducible refine (fqadd_c (a.y*b.y) (a.z*b.z) _ (HG.out.ext (HEW.out.trans (by repeat (first|assumption|exact Ext.refl _|apply Ext.drew|apply Ext.alloc|(refine Ext.setCell ?_ (by simp only [];omega) _)|(refine Ext.trans ?_ (by assumption)))))) (HA.out.y.mul HB.out.y) (HA.out.z.mul HB.out.z) (by omega) (by omega)).mono ?_);rintro e w4 ⟨rfl,e4⟩))
    | (go_at_call 123;((with_reducible refine (fqadd_c (a.x*b.x) (a.y*b.y+a.z*b.z) _ (HG.out.ext (HEW.out.trans (by repeat (first|assumption|exact Ext.refl _|apply Ext.drew|apply Ext.alloc|(refine Ext.setCell ?_ (by simp only [];omega) _)|(refine Ext.trans ?_ (by assumption)))))) (HA.out.x.mul HB.out.x) ((HA.out.y.mul HB.out.y).add (HA.out.z.mul HB.out.z)) (by omega) (by omega)).mono ?_);rintro e w5 ⟨rfl,e5⟩)))
  all_goals
    go_wp2
    go_ret
    exact ⟨rfl,HEW.out.trans (by repeat (first|assumption|exact Ext.refl _|apply Ext.drew|apply Ext.alloc|(refine Ext.setCell ?_ (by simp only [];omega) _)|(refine Ext.trans ?_ (by assumption))))⟩

end Go.Proofs.YtjeimihnoiephaaGreatDoor

namespace Go.Proofs.YtjeimihnoiephaaGreatDoor
open Go Go.RowKit
theorem fqof1_c (n : Int) (w : World) (g : Gd w) (h0 : -9223372036854775808 ≤ n) (h1 : n ≤ 9223372036854775807) :
    Calls Tryz.prog 18 #[.int .i64 n,.int .i64 1] w (Ret w (.string (qs (n:Rat)))):=by
  have:=fqof_c n 1 w g (by decide) h0 h1 (by decide)
  rwa [Rat.mkRat_one] at this

theorem vsub_eq (a b:V3):vadd a (vscale b (-1))=vsub a b:=by
  unfold vadd vscale vsub
  congr 1 <;> grind

theorem qs_m1:qs (-1)=⟨#[45,49]⟩:=by
  have h:(-1:Rat).num<0:=by decide
  have:=qs_neg_pos (q:=1) (by decide)
  rw [← this]
  have e:qs (1:Rat)=zs 1:=by unfold qs zs;rw [ql_one (by rfl)];rfl
  rw [e,zs_one];rfl

theorem sscale_m1 (b:V3) {k:Nat} (w:World) (g:Gd w) (hb:VB k b) (hk:k≤1000):Calls Tryz.prog 17 #[vv b,.string ⟨#[45,49]⟩] w (Ret w (vv (vscale b (-1)))):=by
  have:=sscale_c b (-1) w g hb (m:=1) ⟨by decide,by decide⟩ hk (by decide)
  rwa [qs_m1] at this

theorem sadd_m1 (a b:V3) {k m:Nat} (w:World) (g:Gd w) (ha:VB k a) (hb:VB m b) (hk:k≤900) (hm:m≤900):Calls Tryz.prog 68 #[vv a,vv (vscale b (-1))] w (Ret w (vv (vsub a b))):=by
  have:=sadd_c a (vscale b (-1)) w g ha (hb.scale (m:=1) ⟨by decide,by decide⟩) (by omega) (by omega)
  rwa [vsub_eq] at this

set_option maxHeartbeats 2000000 in
theorem ssub_c (a b:V3) {k m:Nat} (w:World) (g:Gd w) (ha:VB k a) (hb:VB m b) (hk:k≤900) (hm:m≤900):Calls Tryz.prog 35 #[vv a,vv b] w (Ret w (vv (vsub a b))):=by
  have HA:=Lib.hid ha
  have HB:=Lib.hid hb
  have HG:=Lib.hid g
  clear ha hb g
  go_enter Tryz.func35,Tryz.ntmps35
  go_wp2_with fail
  obtain ⟨W,hW⟩:∃ W,((w.alloc (.cells #[.string (qs a.x),.string (qs a.y),.string (qs a.z)] 31)).alloc (.cells #[.string (qs b.x),.string (qs b.y),.string (qs b.z)] 31))=W:=⟨_,rfl⟩
  have b0:Blk W (w.heap.size) #[.string (qs a.x),.string (qs a.y),.string (qs a.z)] 31:=by rw [← hW];have:=((Blk.new w #[.string (qs a.x),.string (qs a.y),.string (qs a.z)] 31).alloc (.cells #[.string (qs b.x),.string (qs b.y),.string (qs b.z)] 31));simpa using this
  have b1:Blk W (w.heap.size+1) #[.string (qs b.x),.string (qs b.y),.string (qs b.z)] 31:=by rw [← hW];have:=(Blk.new (w.alloc (.cells #[.string (qs a.x),.string (qs a.y),.string (qs a.z)] 31)) #[.string (qs b.x),.string (qs b.y),.string (qs b.z)] 31);simpa using this
  have ew:Ext w W:=by rw [← hW];exact (((Ext.refl _).alloc _).alloc _)
  have hsz:W.heap.size=w.heap.size+1+1:=by rw [← hW];simp
  rw [hW]
  have hc:W.cell? ⟨w.heap.size,0,none⟩=some (.string (qs a.x))∧W.cell? ⟨w.heap.size,1,none⟩=some (.string (qs a.y))∧W.cell? ⟨w.heap.size,2,none⟩=some (.string (qs a.z))∧W.cell? ⟨w.heap.size+1,0,none⟩=some (.string (qs b.x))∧W.cell? ⟨w.heap.size+1,1,none⟩=some (.string (qs b.y))∧W.cell? ⟨w.heap.size+1,2,none⟩=some (.string (qs b.z)) :=
    ⟨b0.cell 0 rfl,b0.cell 1 rfl,b0.cell 2 rfl,b1.cell 0 rfl,b1.cell 1 rfl,b1.cell 2 rfl⟩
  have HC:=Lib.hid hc;have HEW:=Lib.hid ew
  have BR:Blk (W.alloc (.cells #[.string ⟨#[]⟩,.string ⟨#[]⟩,.string ⟨#[]⟩] 31)) (w.heap.size+1+1) #[.string ⟨#[]⟩,.string ⟨#[]⟩,.string ⟨#[]⟩] 31:=by rw [← hsz];exact Blk.new W _ _
  have HBR:=Lib.hid BR
  clear BR
  clear hW b0 b1 ew hc
  go_region_held3 (fun w'=>w'.cell? ⟨w.heap.size,0,none⟩=some (.string (qs a.x))∧w'.cell? ⟨w.heap.size,1,none⟩=some (.string (qs a.y))∧w'.cell? ⟨w.heap.size,2,none⟩=some (.string (qs a.z))∧w'.cell? ⟨w.heap.size+1,0,none⟩=some (.string (qs b.x))∧w'.cell? ⟨w.heap.size+1,1,none⟩=some (.string (qs b.y))∧w'.cell? ⟨w.heap.size+1,2,none⟩=some (.string (qs b.z)))
    (exact keepsH6 (by repeat (first|assumption|exact Ext.refl _|apply Ext.drew|apply Ext.alloc|(refine Ext.setCell ?_ (by simp only [];omega) _)|(refine Ext.trans ?_ (by assumption)))) HC.out) (first
    | (go_at_call 17;((with_reducible refine (sscale_m1 b _ (HG.out.ext (HEW.out.trans (by repeat (first|assumption|exact Ext.refl _|apply Ext.drew|apply Ext.alloc|(refine Ext.setCell ?_ (by simp only [];omega) _)|(refine Ext.trans ?_ (by assumption)))))) HB.out (by omega)).mono ?_);rintro e w1 ⟨rfl,e1⟩))
    | (go_at_call 68;((with_reducible refine (sadd_m1 a b _ (HG.out.ext (HEW.out.trans (by repeat (first|assumption|exact Ext.refl _|apply Ext.drew|apply Ext.alloc|(refine Ext.setCell ?_ (by simp only [];omega) _)|(refine Ext.trans ?_ (by assumption)))))) HA.out HB.out (by omega) (by omega)).mono ?_);rintro e w2 ⟨rfl,e2⟩;have R:Blk w2 _ _ _:=HBR.out.ext (by repeat (first|assumption|exact Ext.refl _|apply Ext.drew|(refine Ext.trans ?_ (by assumption))));have c0:=R.cell 0 rfl;have f0:=R.free 0;have c1:=R.cell 1 rfl;have f1:=R.free 1;have c2:=R.cell 2 rfl;have f2:=R.free 2;have HR:=Lib.hid R;clear R)))
  all_goals go_wp2
  have R3:=(((HR.out.set 0 (.string (qs ((vsub a b).x)))).set 1 (.string (qs ((vsub a b).y)))).set 2 (.string (qs ((vsub a b).z))))
  have ex:Ext w (((w2.setCell ⟨w.heap.size+1+1,0,none⟩ (.string (qs ((vsub a b).x)))).setCell ⟨w.heap.size+1+1,1,none⟩ (.string (qs ((vsub a b).y)))).setCell ⟨w.heap.size+1+1,2,none⟩ (.string (qs ((vsub a b).z)))):=HEW.out.trans (by repeat (first|assumption|exact Ext.refl _|apply Ext.drew|apply Ext.alloc|(refine Ext.setCell ?_ (by simp only [];omega) _)|(refine Ext.trans ?_ (by assumption))))
  have g0:=R3.cell 0 rfl;have g1:=R3.cell 1 rfl;have g2:=R3.cell 2 rfl
  clear R3 c0 f0 c1 f1 c2 f2
  generalize (((w2.setCell ⟨w.heap.size+1+1,0,none⟩ (.string (qs ((vsub a b).x)))).setCell ⟨w.heap.size+1+1,1,none⟩ (.string (qs ((vsub a b).y)))).setCell ⟨w.heap.size+1+1,2,none⟩ (.string (qs ((vsub a b).z))))=W' at *
  refine bodyPost_ret (v:=.agg #[.string (qs ((vsub a b).x)),.string (qs ((vsub a b).y)),.string (qs ((vsub a b).z))]) (by simp [results,Tryz.results35,go_sem,g0,g1,g2]) rfl ⟨rfl,ex⟩

theorem sof_c (a b c:Int) (w:World) (g:Gd w) (ha:-100000≤a∧a≤100000) (hb:-100000≤b∧b≤100000) (hc:-100000≤c∧c≤100000):Calls Tryz.prog 20 #[.int .i64 a,.int .i64 b,.int .i64 c] w (Ret w (vv ⟨a,b,c⟩)):=by
  have HG:=Lib.hid g
  clear g
  go_enter Tryz.func20,Tryz.ntmps20
  go_wp2_with (first
    | (go_at_call 18;((with_reducible refine (fqof1_c a _ (HG.out.ext ((Ext.refl _).alloc _)) (by omega) (by omega)).mono ?_);rintro e w1 ⟨rfl,e1⟩))
    | (go_at_call 18;((with_reducible refine (fqof1_c b _ (HG.out.ext (((Ext.refl _).alloc _).trans e1)) (by omega) (by omega)).mono ?_);rintro e w2 ⟨rfl,e2⟩))
    | (go_at_call 18;((with_reducible refine (fqof1_c c _ (HG.out.ext ((((Ext.refl _).alloc _).trans e1).trans e2)) (by omega) (by omega)).mono ?_);rintro e w3 ⟨rfl,e3⟩;have R:Blk w3 _ _ _:=(Blk.new w #[.string ⟨#[]⟩,.string ⟨#[]⟩,.string ⟨#[]⟩] 31).ext (by repeat (first|assumption|exact Ext.refl _|apply Ext.drew|apply Ext.alloc|(refine Ext.setCell ?_ (by simp only [];omega) _)|(refine Ext.trans ?_ (by assumption))));have c0:=R.cell 0 rfl;have f0:=R.free 0;have c1:=R.cell 1 rfl;have f1:=R.free 1;have c2:=R.cell 2 rfl;have f2:=R.free 2;have HR:=Lib.hid R;clear R)))
  have R3:=(((HR.out.set 0 (.string (qs (a:Rat)))).set 1 (.string (qs (b:Rat)))).set 2 (.string (qs (c:Rat))))
  have ex:Ext w (((w3.setCell ⟨w.heap.size,0,none⟩ (.string (qs (a:Rat)))).setCell ⟨w.heap.size,1,none⟩ (.string (qs (b:Rat)))).setCell ⟨w.heap.size,2,none⟩ (.string (qs (c:Rat)))):=((((((((Ext.refl _).alloc _).trans e1).trans e2).trans e3).setCell (Nat.le_refl _) _).setCell (Nat.le_refl _) _).setCell (Nat.le_refl _) _)
  have g0:=R3.cell 0 rfl;have g1:=R3.cell 1 rfl;have g2:=R3.cell 2 rfl
  clear R3 c0 f0 c1 f1 c2 f2
  generalize (((w3.setCell ⟨w.heap.size,0,none⟩ (.string (qs (a:Rat)))).setCell ⟨w.heap.size,1,none⟩ (.string (qs (b:Rat)))).setCell ⟨w.heap.size,2,none⟩ (.string (qs (c:Rat))))=W' at *
  refine bodyPost_ret (v:=.agg #[.string (qs (a:Rat)),.string (qs (b:Rat)),.string (qs (c:Rat))]) (by simp [results,Tryz.results20,go_sem,g0,g1,g2]) rfl ⟨rfl,ex⟩

end Go.Proofs.YtjeimihnoiephaaGreatDoor

namespace Go.Proofs.YtjeimihnoiephaaGreatDoor
open Go Go.RowKit
open Classical in
noncomputable def rq (s:ByteArray):Bool:=decide (RightQ s.data.toList)

open Classical in
theorem rq_true {s:ByteArray}:rq s=true ↔ RightQ s.data.toList:=by unfold rq;exact decide_eq_true_iff
open Classical in
theorem rq_false {s:ByteArray}:rq s=false ↔ ¬ RightQ s.data.toList:=by unfold rq;exact decide_eq_false_iff_not

theorem rcheck_yes (s:ByteArray) (w:World) (g:Gd w) (hl:s.size≤1000000) (h:rq s=true):Calls Tryz.prog 44 #[.string s] w (Ret w (.int .i64 0)) :=
  rcheck_c s w g 0 hl ⟨fun _=>rfl,fun e=>absurd (rq_true.1 h) e⟩
theorem rcheck_not (s:ByteArray) (w:World) (g:Gd w) (hl:s.size≤1000000) (h:rq s=false):Calls Tryz.prog 44 #[.string s] w (Ret w (.int .i64 2)) :=
  rcheck_c s w g 2 hl ⟨fun e=>absurd e (rq_false.1 h),fun _=>rfl⟩

noncomputable def terr (l:List ByteArray):Int:=if l.all rq then 0 else 2

theorem all_true {l:List ByteArray} (h:∀ (i:Nat) (hi:i<l.length),rq l[i]=true):l.all rq=true:=by
  rw [List.all_eq_true];intro x hx
  obtain ⟨i,hi,rfl⟩:=List.getElem_of_mem hx
  exact h i hi
theorem all_false {l:List ByteArray} {i:Nat} (hi:i<l.length) (h:rq l[i]=false):l.all rq=false:=by
  rw [List.all_eq_false];exact ⟨_,List.getElem_mem hi,by simp [h]⟩

theorem Tryz.sizeRat (w:World):(sizeOf 29).run Tryz.prog w = .ok 1 w:=by kernel_rfl

set_option maxHeartbeats 1000000 in
theorem numbers_c (ss : List ByteArray) (b n cap : Nat) (w : World) (g : Gd w) (hn : ss.length = n) (hn9 : n ≤ 100) (hl : ∀ (i : Nat) (hi : i < ss.length), (ss[i]).size ≤ 1000000) (hb : b < w.heap.size)
    (hc:∀ (i:Nat) (hi:i<ss.length),w.cell? ⟨b,i,none⟩=some (.string ss[i])) :
    Calls Tryz.prog 94 #[.slice (some ⟨b,0,none⟩) n cap] w (Ret w (.int .i64 (terr ss))):=by
  have HG:=Lib.hid g;have HL:=Lib.hid hl;have HC:=Lib.hid hc;have HN:=Lib.hid hn;have HBB:=Lib.hid hb
  clear g hl hc hn hb
  go_enter Tryz.func94,Tryz.ntmps94
  go_wp2
  go_loopw [8] (fun x W=>∃ k:Nat,x = .int .i64 k∧k≤n∧Ext w W∧Hid (∀ (i:Nat) (_:i<k) (hi:i<ss.length),rq ss[i]=true)) (fun x _=>n-(intOf x).toNat)
  case atStart=>exact ⟨0,rfl,by omega,Ext.refl _,Lib.hid (fun i h=>by omega)⟩
  case round =>
    obtain ⟨k,rfl,hk,hx,HR⟩:=hrel
    by_cases hkn:k<n
    · have hks:k<ss.length:=by have:=HN.out;omega
      obtain ⟨s,hs⟩:∃ s,s=ss[k]:=⟨_,rfl⟩
      have hsl:s.size≤1000000:=by rw [hs];exact HL.out k hks
      have hcell:∀ W,Ext w W→W.cell? ⟨b,k,none⟩=some (.string s):=fun W e=>by rw [e.cell HBB.out,hs];exact HC.out k hks
      have c1:=hcell _ hx
      have hix:=run_index 162 29 rfl Tryz.sizeRat (ad:=some ⟨b,0,none⟩) (n:=n) (cap:=cap) (fun _=>rfl) k hkn
      have HS:=Lib.hid hs
      clear hs hcell
      cases hq:rq s with
      | true =>
        have HQ:=Lib.hid hq
        clear hq
        go_wp2_with (go_at_call 44;refine (rcheck_yes s _ (HG.out.ext hx) hsl HQ.out).mono ?_;rintro e w2 ⟨rfl,e2⟩)
        go_roundw
        case rel=>exact ⟨k+1,by go_num,by omega,hx.trans e2,Lib.hid (fun i h hi=>by
          by_cases e:i=k
          · subst e;rw [← HS.out];exact HQ.out
          · exact HR.out i (by omega) hi)⟩
        case measure=>simp [intOf];omega
      | false =>
        have HQ:=Lib.hid hq
        clear hq
        go_wp2_with (go_at_call 44;refine (rcheck_not s _ (HG.out.ext hx) hsl HQ.out).mono ?_;rintro e w2 ⟨rfl,e2⟩)
        go_ret
        exact ⟨by unfold terr;rw [all_false hks (by rw [← HS.out];exact HQ.out)];rfl,hx.trans e2⟩
    · obtain rfl:k=n:=by omega
      go_wp2
      go_ret
      exact ⟨by unfold terr;rw [all_true (fun i hi=>HR.out i (by have:=HN.out;omega) hi)];rfl,hx⟩
end Go.Proofs.YtjeimihnoiephaaGreatDoor

namespace Go.Proofs.YtjeimihnoiephaaGreatDoor
open Go Go.RowKit
structure T3 where
  x:ByteArray
  y:ByteArray
  z:ByteArray
abbrev tv (t:T3):Value:=.agg #[.string t.x,.string t.y,.string t.z]
def T3.l (t:T3):List ByteArray:=[t.x,t.y,t.z]
structure TS (t:T3):Prop where
  x:t.x.size≤1000000
  y:t.y.size≤1000000
  z:t.z.size≤1000000
structure T2 where
  x:ByteArray
  y:ByteArray
abbrev tp (t:T2):Value:=.agg #[.string t.x,.string t.y]
def T2.l (t:T2):List ByteArray:=[t.x,t.y]
structure TS2 (t:T2):Prop where
  x:t.x.size≤1000000
  y:t.y.size≤1000000

theorem rq_qs {q:Rat} (h:QB 200 q):rq (qs q)=true :=
  rq_true.2 ⟨q,qs_list q,dec_len_le (by decide) h.num,dec_len_le (by decide) h.den⟩

theorem cells3 {w:World} {b:Nat} {x y z:ByteArray} {t:TypeId} (h:Blk w b #[.string x,.string y,.string z] t):∀ (i:Nat) (hi:i<[x,y,z].length),w.cell? ⟨b,i,none⟩=some (.string [x,y,z][i])
  | 0,_=>h.cell 0 rfl
  | 1,_=>h.cell 1 rfl
  | 2,_=>h.cell 2 rfl
theorem cells2 {w:World} {b:Nat} {x y:ByteArray} {t:TypeId} (h:Blk w b #[.string x,.string y] t):∀ (i:Nat) (hi:i<[x,y].length),w.cell? ⟨b,i,none⟩=some (.string [x,y][i])
  | 0,_=>h.cell 0 rfl
  | 1,_=>h.cell 1 rfl
theorem cells4 {w:World} {b:Nat} {x y z u:ByteArray} {t:TypeId} (h:Blk w b #[.string x,.string y,.string z,.string u] t):∀ (i:Nat) (hi:i<[x,y,z,u].length),w.cell? ⟨b,i,none⟩=some (.string [x,y,z,u][i])
  | 0,_=>h.cell 0 rfl
  | 1,_=>h.cell 1 rfl
  | 2,_=>h.cell 2 rfl
  | 3,_=>h.cell 3 rfl
theorem sizes3 {x y z:ByteArray} (h1:x.size≤1000000) (h2:y.size≤1000000) (h3:z.size≤1000000):∀ (i:Nat) (hi:i<[x,y,z].length),([x,y,z][i]).size≤1000000
  | 0,_=>h1
  | 1,_=>h2
  | 2,_=>h3
theorem sizes2 {x y:ByteArray} (h1:x.size≤1000000) (h2:y.size≤1000000):∀ (i:Nat) (hi:i<[x,y].length),([x,y][i]).size≤1000000
  | 0,_=>h1
  | 1,_=>h2
theorem vcheck_c (t:T3) (w:World) (g:Gd w) (hs:TS t):Calls Tryz.prog 43 #[tv t] w (Ret w (.int .i64 (terr t.l))):=by
  have HG:=Lib.hid g;have HS:=Lib.hid hs
  clear g hs
  go_enter Tryz.func43,Tryz.ntmps43
  go_wp2_with (go_at_call 94;refine (numbers_c [t.x,t.y,t.z] (w.heap.size+1) 3 3 _ (HG.out.ext (((Ext.refl _).alloc _).alloc _)) rfl (by decide) (sizes3 HS.out.x HS.out.y HS.out.z) (by simp) (cells3 (by have:=Blk.new (w.alloc (.cells #[.string t.x,.string t.y,.string t.z] 31)) #[.string t.x,.string t.y,.string t.z] 29;simpa using this))).mono ?_;rintro e w1 ⟨rfl,e1⟩)
  go_ret
  exact ⟨rfl,(((Ext.refl _).alloc _).alloc _).trans e1⟩

theorem run_indexK (t e : TypeId) (K : Nat) (hu : Tryz.prog.underlying t = some (.slice e)) (hs : ∀ w, (sizeOf e).run Tryz.prog w = .ok K w) {ad : Option Addr} {n cap b off : Nat} (h : 0 < n → ad = some ⟨b, off, none⟩) (i : Nat) (hi : i < n) (w : World) :
    (Instr.indexAt t (.slice ad n cap) (.int .i64 (i:Int))).run Tryz.prog w = .ok (.pointer (some ⟨b,off+i*K,none⟩)) w:=by
  rw [h (by omega)]
  simp [Instr.indexAt,asIntOf,run_underlying hu,hs,go_sem,hi,Addr.add]

theorem Tryz.sizeVec (w:World):(sizeOf 31).run Tryz.prog w = .ok 3 w:=by kernel_rfl
noncomputable def verr (l:List T3):Int:=if l.all (fun t=>t.l.all rq) then 0 else 2
theorem terr_0 {l:List ByteArray} (h:l.all rq=true):terr l=0:=by unfold terr;rw [h];rfl
theorem terr_2 {l:List ByteArray} (h:l.all rq=false):terr l=2:=by unfold terr;rw [h];rfl
theorem gall_true {α:Type} {f:α→Bool} {l:List α} (h:∀ (i:Nat) (hi:i<l.length),f l[i]=true):l.all f=true:=by
  rw [List.all_eq_true];intro x hx
  obtain ⟨i,hi,rfl⟩:=List.getElem_of_mem hx
  exact h i hi
theorem gall_false {α:Type} {f:α→Bool} {l:List α} {i:Nat} (hi:i<l.length) (h:f l[i]=false):l.all f=false:=by
  rw [List.all_eq_false];exact ⟨_,List.getElem_mem hi,by simp [h]⟩

set_option maxHeartbeats 1000000 in
theorem vectors_c (ts : List T3) (b n cap : Nat) (w : World) (g : Gd w) (hn : ts.length = n) (hn9 : n ≤ 100) (hl : ∀ (i : Nat) (hi : i < ts.length), TS ts[i]) (hb : b < w.heap.size)
    (hc:∀ (i:Nat) (hi:i<ts.length),w.cell? ⟨b,i*3,none⟩=some (.string (ts[i]).x)∧w.cell? ⟨b,i*3+1,none⟩=some (.string (ts[i]).y)∧w.cell? ⟨b,i*3+2,none⟩=some (.string (ts[i]).z)) :
    Calls Tryz.prog 69 #[.slice (some ⟨b,0,none⟩) n cap] w (Ret w (.int .i64 (verr ts))):=by
  have HG:=Lib.hid g;have HL:=Lib.hid hl;have HC:=Lib.hid hc;have HN:=Lib.hid hn;have HBB:=Lib.hid hb
  clear g hl hc hn hb
  go_enter Tryz.func69,Tryz.ntmps69
  go_wp2
  go_loopw [8] (fun x W=>∃ k:Nat,x = .int .i64 k∧k≤n∧Ext w W∧Hid (∀ (i:Nat) (_:i<k) (hi:i<ts.length),ts[i].l.all rq=true)) (fun x _=>n-(intOf x).toNat)
  case atStart=>exact ⟨0,rfl,by omega,Ext.refl _,Lib.hid (fun i h=>by omega)⟩
  case round =>
    obtain ⟨k,rfl,hk,hx,HR⟩:=hrel
    by_cases hkn:k<n
    · have hks:k<ts.length:=by have:=HN.out;omega
      obtain ⟨s,hs⟩:∃ s,s=ts[k]:=⟨_,rfl⟩
      have hsl:TS s:=by rw [hs];exact HL.out k hks
      obtain ⟨d1,d2,d3⟩:=HC.out k hks
      rw [← hs] at d1 d2 d3
      have c1:=(hx.cell (p:=⟨b,k*3,none⟩) HBB.out).trans d1
      have c2:=(hx.cell (p:=⟨b,k*3+1,none⟩) HBB.out).trans d2
      have c3:=(hx.cell (p:=⟨b,k*3+2,none⟩) HBB.out).trans d3
      have hix:=run_indexK 149 31 3 rfl Tryz.sizeVec (ad:=some ⟨b,0,none⟩) (n:=n) (cap:=cap) (fun _=>rfl) k hkn
      have HS:=Lib.hid hs;have HSL:=Lib.hid hsl
      clear hs d1 d2 d3 hsl
      cases hq:s.l.all rq with
      | true =>
        have HQ:=Lib.hid hq;have HT:=Lib.hid (terr_0 hq)
        clear hq
        go_wp2_with (go_at_call 43;refine (vcheck_c s _ (HG.out.ext (by repeat (first|assumption|apply Ext.alloc|(refine Ext.setCell ?_ (by have:=hx.size;simp;omega) _)))) HSL.out).mono ?_;rw [HT.out];rintro e w2 ⟨rfl,e2⟩)
        go_roundw
        case rel=>exact ⟨k+1,by go_num,by omega,(hx.alloc _).trans e2,Lib.hid (fun i h hi=>by
          by_cases e:i=k
          · subst e;rw [← HS.out];exact HQ.out
          · exact HR.out i (by omega) hi)⟩
        case measure=>simp [intOf];omega
      | false =>
        have HQ:=Lib.hid hq;have HT:=Lib.hid (terr_2 hq)
        clear hq
        go_wp2_with (go_at_call 43;refine (vcheck_c s _ (HG.out.ext (by repeat (first|assumption|apply Ext.alloc|(refine Ext.setCell ?_ (by have:=hx.size;simp;omega) _)))) HSL.out).mono ?_;rw [HT.out];rintro e w2 ⟨rfl,e2⟩)
        go_ret
        exact ⟨by unfold verr;rw [gall_false hks (by rw [← HS.out];exact HQ.out)];rfl,(hx.alloc _).trans e2⟩
    · obtain rfl:k=n:=by omega
      go_wp2
      go_ret
      exact ⟨by unfold verr;rw [gall_true (fun i hi=>HR.out i (by have:=HN.out;omega) hi)];rfl,hx⟩

end Go.Proofs.YtjeimihnoiephaaGreatDoor

namespace Go.Proofs.YtjeimihnoiephaaGreatDoor
open Go Go.RowKit
theorem fright_yes (s:ByteArray) (w:World) (g:Gd w) (hl:s.size≤1000000) (h:rq s=true):Calls Tryz.prog 16 #[.string s] w (Ret w (.bool true)) :=
  fqright_c s w g true hl ⟨fun _=>rfl,fun e=>absurd (rq_true.1 h) e⟩
theorem fright_no (s:ByteArray) (w:World) (g:Gd w) (hl:s.size≤1000000) (h:rq s=false):Calls Tryz.prog 16 #[.string s] w (Ret w (.bool false)) :=
  fqright_c s w g false hl ⟨fun e=>absurd e (rq_false.1 h),fun _=>rfl⟩

set_option maxHeartbeats 1000000 in
theorem sright_0 (t:T3) (w:World) (g:Gd w) (hs:TS t)  (h0:rq t.x=false):Calls Tryz.prog 15 #[tv t] w (Ret w (.bool false)):=by
  have HG:=Lib.hid g;have HS:=Lib.hid hs;have H0:=Lib.hid h0
  clear g hs h0
  go_enter Tryz.func15,Tryz.ntmps15
  go_wp2_with (first
    | (go_at_call 16;((with_reducible refine (fright_no t.x _ (HG.out.ext ((Ext.refl w).alloc _)) HS.out.x H0.out).mono ?_);rintro e w1 ⟨rfl,e1⟩)))
  go_ret
  exact ⟨rfl,(((Ext.refl w).alloc _).trans e1)⟩

set_option maxHeartbeats 1000000 in
theorem sright_1 (t:T3) (w:World) (g:Gd w) (hs:TS t) (h0:rq t.x=true) (h1:rq t.y=false):Calls Tryz.prog 15 #[tv t] w (Ret w (.bool false)):=by
  have HG:=Lib.hid g;have HS:=Lib.hid hs;have H0:=Lib.hid h0;have H1:=Lib.hid h1
  clear g hs h0 h1
  go_enter Tryz.func15,Tryz.ntmps15
  go_wp2_with (first
    | (go_at_call 16;((with_reducible refine (fright_yes t.x _ (HG.out.ext ((Ext.refl w).alloc _)) HS.out.x H0.out).mono ?_);rintro e w1 ⟨rfl,e1⟩;have x1:=((Ext.refl w).alloc _).trans e1;have B1:=(Blk.new w #[.string t.x,.string t.y,.string t.z] 31).ext (e1:Ext (w.alloc (.cells #[.string t.x,.string t.y,.string t.z] 31)) w1);have c1:=B1.cell 1 rfl;clear B1))
    | (go_at_call 16;((with_reducible refine (fright_no t.y _ (HG.out.ext (((Ext.refl w).alloc _).trans e1)) HS.out.y H1.out).mono ?_);rintro e w2 ⟨rfl,e2⟩)))
  go_ret
  exact ⟨rfl,((((Ext.refl w).alloc _).trans e1).trans e2)⟩

set_option maxHeartbeats 1000000 in
theorem sright_2 (t:T3) (w:World) (g:Gd w) (hs:TS t) (h0:rq t.x=true) (h1:rq t.y=true) (h2:rq t.z=false):Calls Tryz.prog 15 #[tv t] w (Ret w (.bool false)):=by
  have HG:=Lib.hid g;have HS:=Lib.hid hs;have H0:=Lib.hid h0;have H1:=Lib.hid h1;have H2:=Lib.hid h2
  clear g hs h0 h1 h2
  go_enter Tryz.func15,Tryz.ntmps15
  go_wp2_with (first
    | (go_at_call 16;((with_reducible refine (fright_yes t.x _ (HG.out.ext ((Ext.refl w).alloc _)) HS.out.x H0.out).mono ?_);rintro e w1 ⟨rfl,e1⟩;have x1:=((Ext.refl w).alloc _).trans e1;have B1:=(Blk.new w #[.string t.x,.string t.y,.string t.z] 31).ext (e1:Ext (w.alloc (.cells #[.string t.x,.string t.y,.string t.z] 31)) w1);have c1:=B1.cell 1 rfl;clear B1))
    | (go_at_call 16;((with_reducible refine (fright_yes t.y _ (HG.out.ext (((Ext.refl w).alloc _).trans e1)) HS.out.y H1.out).mono ?_);rintro e w2 ⟨rfl,e2⟩;have x2:=(((Ext.refl w).alloc _).trans e1).trans e2;have B2:=(Blk.new w #[.string t.x,.string t.y,.string t.z] 31).ext ((e1.trans e2):Ext (w.alloc (.cells #[.string t.x,.string t.y,.string t.z] 31)) w2);have c2:=B2.cell 2 rfl;clear B2))
    | (go_at_call 16;((with_reducible refine (fright_no t.z _ (HG.out.ext ((((Ext.refl w).alloc _).trans e1).trans e2)) HS.out.z H2.out).mono ?_);rintro e w3 ⟨rfl,e3⟩)))
  go_ret
  exact ⟨rfl,(((((Ext.refl w).alloc _).trans e1).trans e2).trans e3)⟩

set_option maxHeartbeats 1000000 in
theorem sright_3 (t:T3) (w:World) (g:Gd w) (hs:TS t) (h0:rq t.x=true) (h1:rq t.y=true) (h2:rq t.z=true):Calls Tryz.prog 15 #[tv t] w (Ret w (.bool true)):=by
  have HG:=Lib.hid g;have HS:=Lib.hid hs;have H0:=Lib.hid h0;have H1:=Lib.hid h1;have H2:=Lib.hid h2
  clear g hs h0 h1 h2
  go_enter Tryz.func15,Tryz.ntmps15
  go_wp2_with (first
    | (go_at_call 16;((with_reducible refine (fright_yes t.x _ (HG.out.ext ((Ext.refl w).alloc _)) HS.out.x H0.out).mono ?_);rintro e w1 ⟨rfl,e1⟩;have x1:=((Ext.refl w).alloc _).trans e1;have B1:=(Blk.new w #[.string t.x,.string t.y,.string t.z] 31).ext (e1:Ext (w.alloc (.cells #[.string t.x,.string t.y,.string t.z] 31)) w1);have c1:=B1.cell 1 rfl;clear B1))
    | (go_at_call 16;((with_reducible refine (fright_yes t.y _ (HG.out.ext (((Ext.refl w).alloc _).trans e1)) HS.out.y H1.out).mono ?_);rintro e w2 ⟨rfl,e2⟩;have x2:=(((Ext.refl w).alloc _).trans e1).trans e2;have B2:=(Blk.new w #[.string t.x,.string t.y,.string t.z] 31).ext ((e1.trans e2):Ext (w.alloc (.cells #[.string t.x,.string t.y,.string t.z] 31)) w2);have c2:=B2.cell 2 rfl;clear B2))
    | (go_at_call 16;((with_reducible refine (fright_yes t.z _ (HG.out.ext ((((Ext.refl w).alloc _).trans e1).trans e2)) HS.out.z H2.out).mono ?_);rintro e w3 ⟨rfl,e3⟩)))
  go_ret
  exact ⟨rfl,(((((Ext.refl w).alloc _).trans e1).trans e2).trans e3)⟩

theorem sright_c (t:T3) (w:World) (g:Gd w) (hs:TS t):Calls Tryz.prog 15 #[tv t] w (Ret w (.bool (t.l.all rq))):=by
  cases h0:rq t.x with
  | false =>
    have e:t.l.all rq=false:=by simp [T3.l,h0]
    rw [e];exact sright_0 t w g hs h0
  | true =>
    cases h1:rq t.y with
    | false =>
      have e:t.l.all rq=false:=by simp [T3.l,h0,h1]
      rw [e];exact sright_1 t w g hs h0 h1
    | true =>
      cases h2:rq t.z with
      | false =>
        have e:t.l.all rq=false:=by simp [T3.l,h0,h1,h2]
        rw [e];exact sright_2 t w g hs h0 h1 h2
      | true =>
        have e:t.l.all rq=true:=by simp [T3.l,h0,h1,h2]
        rw [e];exact sright_3 t w g hs h0 h1 h2

end Go.Proofs.YtjeimihnoiephaaGreatDoor

namespace Go.Proofs.YtjeimihnoiephaaGreatDoor
open Go Go.RowKit
theorem abs_len (n:Int):(zs (n.natAbs:Int)).size=(Lib.decDigits n.natAbs).length:=by rw [zs_size,zl_nat]
theorem QB.iff200 (q:Rat):QB 200 q ↔ (Lib.decDigits q.num.natAbs).length≤200∧(Lib.decDigits q.den).length≤200 :=
  ⟨fun h=>⟨dec_len_le (by decide) h.num,dec_len_le (by decide) h.den⟩,fun h=>⟨lt_of_dec_len h.1,lt_of_dec_len h.2⟩⟩

theorem long_no (q:Rat) (w:World) (hq:QB 200 q):Calls Tryz.prog 133 #[.string (qs q)] w (Ret w (.bool false)):=by
  have h:=(QB.iff200 q).1 hq
  have h1:¬ (200:Int)<((zs (q.num.natAbs:Int)).size:Int):=by rw [abs_len];omega
  have h2:¬ (200:Int)<((zs (q.den:Int)).size:Int):=by rw [zs_size,zl_nat];omega
  have HQ:=Lib.hid hq
  clear h hq
  go_enter Tryz.func133,Tryz.ntmps133
  go_wp2_with (first
    | (go_at_call 72;refine (parts_c q w HQ.out (by decide)).mono ?_;rintro e w1 ⟨rfl,e1⟩)
    | (go_at_call 172;refine (abs_c q.num _).mono ?_;rintro e w2 ⟨rfl,rfl⟩))
  go_ret
  exact ⟨by show Ending.returned (.bool (_ || _))=_;rw [decide_eq_false (show ¬ (200:Int)<((zs (q.num.natAbs:Int)).size:Int) by omega),decide_eq_false (show ¬ (200:Int)<((zs (q.den:Int)).size:Int) by omega)];rfl,e1⟩

theorem number_no (q:Rat) (w:World) (hq:QB 200 q):Calls Tryz.prog 80 #[.string (qs q)] w (Ret w (.tuple #[.string (qs q),.int .i64 0])):=by
  have HQ:=Lib.hid hq
  clear hq
  go_enter Tryz.func80,Tryz.ntmps80
  go_wp2_with (go_at_call 133;refine (long_no q w HQ.out).mono ?_;rintro e w1 ⟨rfl,e1⟩)
  go_ret2
  exact ⟨rfl,e1⟩

theorem list_c (x:T3) (w:World):Calls Tryz.prog 71 #[tv x] w (Ret w (tv x)):=by
  go_enter Tryz.func71,Tryz.ntmps71
  go_wp2
  refine bodyPost_ret (v:=tv x) (by simp [results,Tryz.results71,go_sem]) rfl ⟨rfl,((Ext.refl _).alloc _).alloc _⟩

theorem vector_c (x:T3) (w:World):Calls Tryz.prog 79 #[tv x] w (Ret w (tv x)):=by
  go_enter Tryz.func79,Tryz.ntmps79
  go_wp2
  refine bodyPost_ret (v:=tv x) (by simp [results,Tryz.results79,go_sem]) rfl ⟨rfl,((Ext.refl _).alloc _).alloc _⟩

theorem idx3_0 (x y z:ByteArray) (w:World):(Instr.index 108 (.agg #[.string x,.string y,.string z]) (.int .i64 0)).run Tryz.prog w = .ok (.string x) w:=by kernel_rfl
theorem idx3_1 (x y z:ByteArray) (w:World):(Instr.index 108 (.agg #[.string x,.string y,.string z]) (.int .i64 1)).run Tryz.prog w = .ok (.string y) w:=by kernel_rfl
theorem idx3_2 (x y z:ByteArray) (w:World):(Instr.index 108 (.agg #[.string x,.string y,.string z]) (.int .i64 2)).run Tryz.prog w = .ok (.string z) w:=by kernel_rfl

set_option maxHeartbeats 1000000 in
theorem result_3 (x y z:Rat) (w:World) (h0:QB 200 x) (h1:QB 200 y) (h2:QB 200 z):Calls Tryz.prog 78 #[.agg #[.string (qs x),.string (qs y),.string (qs z)]] w (Ret w (.tuple #[.agg #[.string (qs x),.string (qs y),.string (qs z)],.int .i64 0])):=by
  have Hh0:=Lib.hid h0;have Hh1:=Lib.hid h1;have Hh2:=Lib.hid h2
  clear h0 h1 h2
  have ix0:=idx3_0 (qs x) (qs y) (qs z);have ix1:=idx3_1 (qs x) (qs y) (qs z);have ix2:=idx3_2 (qs x) (qs y) (qs z)
  go_enter Tryz.func78,Tryz.ntmps78
  go_wp2
  refine wp_loop_rounds 4 ?_
  rw [rounds_succ]
  go_wp2_with (go_at_call 133;refine (long_no x _ Hh0.out).mono ?_;rintro e w1 ⟨rfl,e1⟩)
  rw [rounds_succ]
  go_wp2_with (go_at_call 133;refine (long_no y _ Hh1.out).mono ?_;rintro e w2 ⟨rfl,e2⟩)
  rw [rounds_succ]
  go_wp2_with (go_at_call 133;refine (long_no z _ Hh2.out).mono ?_;rintro e w3 ⟨rfl,e3⟩;have B:Blk w3 w.heap.size #[.string (qs x),.string (qs y),.string (qs z)] 108:=((Blk.new w #[.string (qs x),.string (qs y),.string (qs z)] 108).alloc (.cells #[.string ⟨#[]⟩,.string ⟨#[]⟩,.string ⟨#[]⟩] 31)).ext (by repeat (first|assumption|exact Ext.refl _|apply Ext.drew|apply Ext.alloc|(refine Ext.setCell ?_ (by simp only [];omega) _)|(refine Ext.trans ?_ (by assumption))));have d0:=B.cell 0 rfl;have d1:=B.cell 1 rfl;have d2:=B.cell 2 rfl;clear B)
  rw [rounds_succ]
  go_wp2_with (go_at_call 79;refine (vector_c ⟨qs x,qs y,qs z⟩ _).mono ?_;rintro e w4 ⟨rfl,e4⟩;have R:Blk w4 (w.heap.size+1) #[.string ⟨#[]⟩,.string ⟨#[]⟩,.string ⟨#[]⟩] 31:=(by have:=Blk.new (w.alloc (.cells #[.string (qs x),.string (qs y),.string (qs z)] 108)) #[.string ⟨#[]⟩,.string ⟨#[]⟩,.string ⟨#[]⟩] 31;simpa using this:Blk ((w.alloc (.cells #[.string (qs x),.string (qs y),.string (qs z)] 108)).alloc (.cells #[.string ⟨#[]⟩,.string ⟨#[]⟩,.string ⟨#[]⟩] 31)) (w.heap.size+1) #[.string ⟨#[]⟩,.string ⟨#[]⟩,.string ⟨#[]⟩] 31).ext (by repeat (first|assumption|exact Ext.refl _|apply Ext.drew|apply Ext.alloc|(refine Ext.setCell ?_ (by simp only [];omega) _)|(refine Ext.trans ?_ (by assumption))));have c0:=R.cell 0 rfl;have c1:=R.cell 1 rfl;have c2:=R.cell 2 rfl;have f0:=R.free 0;have f1:=R.free 1;have f2:=R.free 2;have HR:=Lib.hid R;clear R)
  clear c0 c1 c2 f0 f1 f2
  have R3:=(((HR.out.set 0 (.string (qs x))).set 1 (.string (qs y))).set 2 (.string (qs z)))
  have ex:Ext w (((w4.setCell ⟨w.heap.size+1,0,none⟩ (.string (qs x))).setCell ⟨w.heap.size+1,1,none⟩ (.string (qs y))).setCell ⟨w.heap.size+1,2,none⟩ (.string (qs z))):=((((((((((Ext.refl _).alloc _).alloc _).trans e1).trans e2).trans e3).trans e4).setCell (by simp) _).setCell (by simp) _).setCell (by simp) _)
  have g0:=R3.cell 0 rfl;have g1:=R3.cell 1 rfl;have g2:=R3.cell 2 rfl
  clear R3
  generalize (((w4.setCell ⟨w.heap.size+1,0,none⟩ (.string (qs x))).setCell ⟨w.heap.size+1,1,none⟩ (.string (qs y))).setCell ⟨w.heap.size+1,2,none⟩ (.string (qs z)))=W' at *
  refine bodyPost_ret (v:=.tuple #[.agg #[.string (qs x),.string (qs y),.string (qs z)],.int .i64 0]) (by simp [results,Tryz.results78,go_sem,g0,g1,g2]) rfl ⟨rfl,ex⟩
end Go.Proofs.YtjeimihnoiephaaGreatDoor

namespace Go.Proofs.YtjeimihnoiephaaGreatDoor
open Go Go.RowKit
theorem Blk.new' {w:World} {k:Nat} {cs:Array Value} {t:TypeId} (hk:k=w.heap.size):Blk (w.alloc (.cells cs t)) k cs t:=by subst hk;exact Blk.new w cs t
theorem wp_name {P:World→Prop} {w0:World} (I:World→Prop) (h:I w0) (k:∀ W,I W→P W):P w0:=k w0 h
theorem cell_set_ne {w:World} {b b2 o o2:Nat} {u:Value} (h:b≠b2):(w.setCell ⟨b2,o2,none⟩ u).cell? ⟨b,o,none⟩=w.cell? ⟨b,o,none⟩:=by
  have:=Below.heap_setCell w ⟨b2,o2,none⟩ u b h
  simp only [World.cell?,this]
theorem cell_set_off {w:World} {b o o2:Nat} {u:Value} (h:o≠o2):(w.setCell ⟨b,o2,none⟩ u).cell? ⟨b,o,none⟩=w.cell? ⟨b,o,none⟩:=by
  simp only [World.setCell,World.cell?,Array.getElem?_modify,ite_true]
  cases hb:w.heap[b]? with
  | none=>rfl
  | some x=>cases x <;> simp [h.symm]
theorem QB.min {k m:Nat} {a b:Rat} (ha:QB k a) (hb:QB m b):QB (max k m) (qmin a b):=by
  unfold qmin;split
  · exact hb.mono (Nat.le_max_right _ _)
  · exact ha.mono (Nat.le_max_left _ _)
theorem QB.max {k m:Nat} {a b:Rat} (ha:QB k a) (hb:QB m b):QB (Nat.max k m) (qmax a b):=by
  unfold qmax;split
  · exact hb.mono (Nat.le_max_right _ _)
  · exact ha.mono (Nat.le_max_left _ _)
theorem keepsH1 {w w':World} (e:Ext w w') {b0 o0:Nat} {x0:Value} (h:w.cell? ⟨b0,o0,none⟩=some x0):w'.cell? ⟨b0,o0,none⟩=some x0 :=
  e.keeps h
end Go.Proofs.YtjeimihnoiephaaGreatDoor

namespace Go.Proofs.YtjeimihnoiephaaGreatDoor
open Go Go.RowKit
def v3at (v:V3) (k:Nat):Rat:=if k=0 then v.x else if k=1 then v.y else v.z
def v3mix (r v:V3) (k:Nat):Array Value:=#[.string (qs (if 0<k then r.x else v.x)),.string (qs (if 1<k then r.y else v.y)),.string (qs (if 2<k then r.z else v.z))]
theorem v3mix_0 (r v:V3):v3mix r v 0=#[.string (qs v.x),.string (qs v.y),.string (qs v.z)]:=rfl
theorem v3mix_3 (r v:V3):v3mix r v 3=#[.string (qs r.x),.string (qs r.y),.string (qs r.z)]:=rfl
theorem v3mix_at {r v:V3} {k:Nat} (h:k<3):(v3mix r v k)[k]?=some (.string (qs (v3at v k))):=by
  match k,h with
  | 0,_=>rfl
  | 1,_=>rfl
  | 2,_=>rfl
theorem v3mix_set {r v:V3} {k:Nat} (h:k<3) {q:Rat} (hq:q=v3at r k):(v3mix r v k).setIfInBounds k (.string (qs q))=v3mix r v (k+1):=by
  subst hq
  match k,h with
  | 0,_=>rfl
  | 1,_=>rfl
  | 2,_=>rfl
theorem v3cells_at {v:V3} {k:Nat} (h:k<3):(#[.string (qs v.x),.string (qs v.y),.string (qs v.z)]:Array Value)[k]?=some (.string (qs (v3at v k))):=by
  match k,h with
  | 0,_=>rfl
  | 1,_=>rfl
  | 2,_=>rfl
theorem VB.at {n:Nat} {v:V3} (h:VB n v) (k:Nat):QB n (v3at v k):=by
  unfold v3at;split
  · exact h.x
  · split
    · exact h.y
    · exact h.z
theorem tri_index0 (w:World) (b:Nat):(Instr.indexAt 108 (.pointer (some ⟨b,0,none⟩)) (.int .i64 0)).run Tryz.prog w = .ok (.pointer (some ⟨b,0,none⟩)) w:=by kernel_rfl
theorem tri_index1 (w:World) (b:Nat):(Instr.indexAt 108 (.pointer (some ⟨b,0,none⟩)) (.int .i64 1)).run Tryz.prog w = .ok (.pointer (some ⟨b,1,none⟩)) w:=by kernel_rfl
theorem tri_index2 (w:World) (b:Nat):(Instr.indexAt 108 (.pointer (some ⟨b,0,none⟩)) (.int .i64 2)).run Tryz.prog w = .ok (.pointer (some ⟨b,2,none⟩)) w:=by kernel_rfl
theorem tri_index (w:World) (b k:Nat) (h:k<3):(Instr.indexAt 108 (.pointer (some ⟨b,0,none⟩)) (.int .i64 (k:Int))).run Tryz.prog w = .ok (.pointer (some ⟨b,k,none⟩)) w:=by
  have e:k=0∨k=1∨k=2:=by omega
  rcases e with rfl|rfl|rfl
  · exact tri_index0 w b
  · exact tri_index1 w b
  · exact tri_index2 w b

theorem list_e (x:T3) (w:World):Calls Tryz.prog 71 #[tv x] w fun e w'=>e = .returned (tv x)∧w'=(w.alloc (.cells #[.string x.x,.string x.y,.string x.z] 31)).alloc (.cells #[.string x.x,.string x.y,.string x.z] 108):=by
  go_enter Tryz.func71,Tryz.ntmps71
  go_wp2
  refine bodyPost_ret (v:=tv x) (by simp [results,Tryz.results71,go_sem]) rfl ⟨rfl,rfl⟩

end Go.Proofs.YtjeimihnoiephaaGreatDoor

namespace Go.Proofs.YtjeimihnoiephaaGreatDoor
open Go Go.RowKit
theorem vzero_c (v:V3) (w:World):Calls Tryz.prog 70 #[vv v] w (Ret w (.bool (decide (v.x=0∧v.y=0∧v.z=0)))):=by
  by_cases hx:v.x=0
  · by_cases hy:v.y=0
    · by_cases hz:v.z=0
      · have h1:=qs_is0 hx;have h2:=qs_is0 hy;have h3:=qs_is0 hz
        have H:Hid (decide (v.x=0∧v.y=0∧v.z=0)=true):=Lib.hid (by simp [hx,hy,hz])
        clear hx hy hz
        go_enter Tryz.func70,Tryz.ntmps70
        go_wp2
        go_ret
        exact ⟨by rw [H.out];rfl,(Ext.refl _).alloc _⟩
      · have h1:=qs_is0 hx;have h2:=qs_is0 hy;have h3:=qs_not0 hz
        have H:Hid (decide (v.x=0∧v.y=0∧v.z=0)=false):=Lib.hid (by simp [hz])
        clear hx hy hz
        go_enter Tryz.func70,Tryz.ntmps70
        go_wp2
        go_ret
        exact ⟨by rw [H.out];rfl,(Ext.refl _).alloc _⟩
    · have h1:=qs_is0 hx;have h2:=qs_not0 hy
      have H:Hid (decide (v.x=0∧v.y=0∧v.z=0)=false):=Lib.hid (by simp [hy])
      clear hx hy
      go_enter Tryz.func70,Tryz.ntmps70
      go_wp2
      go_ret
      exact ⟨by rw [H.out];rfl,(Ext.refl _).alloc _⟩
  · have h1:=qs_not0 hx
    have H:Hid (decide (v.x=0∧v.y=0∧v.z=0)=false):=Lib.hid (by simp [hx])
    clear hx
    go_enter Tryz.func70,Tryz.ntmps70
    go_wp2
    go_ret
    exact ⟨by rw [H.out];rfl,(Ext.refl _).alloc _⟩

theorem VB.mono {k m:Nat} {v:V3} (h:VB k v) (hk:k≤m):VB m v:=⟨h.x.mono hk,h.y.mono hk,h.z.mono hk⟩
theorem PB.mono {k m:Nat} {v:P2} (h:PB k v) (hk:k≤m):PB m v:=⟨h.x.mono hk,h.y.mono hk⟩
theorem VB.ts {v:V3} (h:VB 200 v):TS ⟨qs v.x,qs v.y,qs v.z⟩:=⟨h.x.len (by decide),h.y.len (by decide),h.z.len (by decide)⟩
theorem PB.ts {p:P2} (h:PB 200 p):TS2 ⟨qs p.x,qs p.y⟩:=⟨h.x.len (by decide),h.y.len (by decide)⟩
theorem VB.all {v:V3} (h:VB 200 v):(T3.l ⟨qs v.x,qs v.y,qs v.z⟩).all rq=true:=by simp [T3.l,rq_qs h.x,rq_qs h.y,rq_qs h.z]
theorem PB.all {p:P2} (h:PB 200 p):(T2.l ⟨qs p.x,qs p.y⟩).all rq=true:=by simp [T2.l,rq_qs h.x,rq_qs h.y]

theorem vectors1_c (a:T3) (kb:Nat) (w:World) (g:Gd w) (ha:TS a) (hB:Blk w kb #[.string a.x,.string a.y,.string a.z] 31):Calls Tryz.prog 69 #[.slice (some ⟨kb,0,none⟩) 1 1] w (Ret w (.int .i64 (verr [a]))) :=
  vectors_c [a] kb 1 1 w g rfl (by decide) (fun i hi=>match i,hi with|0,_=>ha) hB.lt (fun i hi=>match i,hi with|0,_=>⟨hB.cell 0 rfl,hB.cell 1 rfl,hB.cell 2 rfl⟩)
theorem vectors1_ok (a:V3) (kb:Nat) (w:World) (g:Gd w) (ha:VB 200 a) (hB:Blk w kb #[.string (qs a.x),.string (qs a.y),.string (qs a.z)] 31):Calls Tryz.prog 69 #[.slice (some ⟨kb,0,none⟩) 1 1] w (Ret w (.int .i64 0)):=by
  have:=vectors1_c ⟨qs a.x,qs a.y,qs a.z⟩ kb w g ha.ts hB
  rwa [show verr [⟨qs a.x,qs a.y,qs a.z⟩]=0 by unfold verr;simp only [List.all_cons,List.all_nil,ha.all];rfl] at this

theorem vectors2_c (a b:T3) (kb:Nat) (w:World) (g:Gd w) (ha:TS a) (hb:TS b) (hB:Blk w kb #[.string a.x,.string a.y,.string a.z,.string b.x,.string b.y,.string b.z] 31):Calls Tryz.prog 69 #[.slice (some ⟨kb,0,none⟩) 2 2] w (Ret w (.int .i64 (verr [a,b]))) :=
  vectors_c [a,b] kb 2 2 w g rfl (by decide) (fun i hi=>match i,hi with|0,_=>ha|1,_=>hb) hB.lt (fun i hi=>match i,hi with|0,_=>⟨hB.cell 0 rfl,hB.cell 1 rfl,hB.cell 2 rfl⟩|1,_=>⟨hB.cell 3 rfl,hB.cell 4 rfl,hB.cell 5 rfl⟩)
theorem vectors2_ok (a b:V3) (kb:Nat) (w:World) (g:Gd w) (ha:VB 200 a) (hb:VB 200 b) (hB:Blk w kb #[.string (qs a.x),.string (qs a.y),.string (qs a.z),.string (qs b.x),.string (qs b.y),.string (qs b.z)] 31):Calls Tryz.prog 69 #[.slice (some ⟨kb,0,none⟩) 2 2] w (Ret w (.int .i64 0)):=by
  have:=vectors2_c ⟨qs a.x,qs a.y,qs a.z⟩ ⟨qs b.x,qs b.y,qs b.z⟩ kb w g ha.ts hb.ts hB
  rwa [show verr [⟨qs a.x,qs a.y,qs a.z⟩,⟨qs b.x,qs b.y,qs b.z⟩]=0 by unfold verr;simp only [List.all_cons,List.all_nil,ha.all,hb.all];rfl] at this

theorem radd_0 (b:Rat) {k:Nat} (w:World) (g:Gd w) (hb:QB k b) (hk:k≤3000):Calls Tryz.prog 90 #[.string ⟨#[48]⟩,.string (qs b)] w (Ret w (.string (qs b))):=by
  have:=radd_c 0 b w g (⟨by decide,by decide⟩:QB 1 0) hb (by decide) hk
  rwa [qs_zero,Rat.zero_add] at this

set_option maxHeartbeats 2000000 in
theorem sum3_c (x y z:Rat) (cb:Nat) {k:Nat} {ty:TypeId} (w:World) (g:Gd w) (hx:QB k x) (hy:QB k y) (hz:QB k z) (hcb:Blk w cb #[.string (qs x),.string (qs y),.string (qs z)] ty) (hk:k≤1490):Calls Tryz.prog 134 #[.slice (some ⟨cb,0,none⟩) 3 3] w (Ret w (.string (qs (x+y+z)))):=by
  have HG:=Lib.hid g
  have HX0:=Lib.hid hx
  have HY0:=Lib.hid hy
  have HZ0:=Lib.hid hz
  have HCB:=Lib.hid hcb
  clear g hx hy hz hcb
  go_enter Tryz.func134,Tryz.ntmps134
  go_wp2_with fail
  refine wp_loop_rounds 4 ?_
  rw [rounds_succ]
  have cP_0:=HCB.out.cell 0 rfl
  go_wp2_with fail
  refine (radd_0 x _ (HG.out.ext (Ext.refl w)) HX0.out (by omega)).mono ?_;rintro e w1 ⟨rfl,e1⟩
  have HX1:Hid (Ext w w1):=Lib.hid ((Ext.refl w).trans e1)
  have HBP_1:=Lib.hid (Blk.ext HCB.out e1)
  clear e1 cP_0
  go_wp2_with fail
  rw [rounds_succ]
  have cP_1:=HBP_1.out.cell 1 rfl
  go_wp2_with fail
  refine (radd_c x y _ (HG.out.ext HX1.out) HX0.out HY0.out (by omega) (by omega)).mono ?_;rintro e w2 ⟨rfl,e2⟩
  have HX2:Hid (Ext w w2):=Lib.hid (HX1.out.trans e2)
  have HBP_2:=Lib.hid (Blk.ext HBP_1.out e2)
  clear e2 cP_1
  go_wp2_with fail
  rw [rounds_succ]
  have cP_2:=HBP_2.out.cell 2 rfl
  go_wp2_with fail
  refine (radd_c (x+y) z _ (HG.out.ext HX2.out) (HX0.out.add HY0.out) HZ0.out (by omega) (by omega)).mono ?_;rintro e w3 ⟨rfl,e3⟩
  have HX3:Hid (Ext w w3):=Lib.hid (HX2.out.trans e3)
  clear e3 cP_2
  go_wp2_with fail
  rw [rounds_succ]
  go_wp2
  go_ret
  exact ⟨rfl,HX3.out⟩
end Go.Proofs.YtjeimihnoiephaaGreatDoor

namespace Go.Proofs.YtjeimihnoiephaaGreatDoor
open Go Go.RowKit
set_option maxHeartbeats 4000000 in
theorem each_mul (a b:V3) {k m:Nat} (w:World) (g:Gd w) (ha:VB k a) (hb:VB m b) (hk:k≤3000) (hm:m≤3000):Calls Tryz.prog 131 #[vv a,vv b,.func (.func 46) #[] #[]] w (Ret w (vv ⟨a.x*b.x,a.y*b.y,a.z*b.z⟩)):=by
  have HG:=Lib.hid g
  have HA:=Lib.hid ha
  have HB:=Lib.hid hb
  clear g ha hb
  obtain ⟨r,hr⟩:∃ r:V3,r=⟨a.x*b.x,a.y*b.y,a.z*b.z⟩:=⟨_,rfl⟩
  have hat:∀ k:Nat,(v3at a k)*(v3at b k)=v3at r k:=by intro k;rw [hr];unfold v3at;split <;> (try split) <;> rfl
  have HAT:=Lib.hid hat;have HR0:=Lib.hid hr
  rw [show (⟨a.x*b.x,a.y*b.y,a.z*b.z⟩:V3)=r from hr.symm]
  clear hat hr
  go_enter Tryz.func131,Tryz.ntmps131
  go_wp2_with fail
  refine wp_name (fun W=>Ext w W∧Blk W w.heap.size #[.string (qs a.x),.string (qs a.y),.string (qs a.z)] 31∧Blk W (w.heap.size+1) #[.string (qs b.x),.string (qs b.y),.string (qs b.z)] 31∧Blk W (w.heap.size+1+1) #[.string ⟨#[]⟩,.string ⟨#[]⟩,.string ⟨#[]⟩] 108) ⟨(((Ext.refl _).alloc _).alloc _).alloc _,((Blk.new' rfl).alloc _).alloc _,(Blk.new' (by first|rfl|simp)).alloc _,Blk.new' (by first|rfl|simp)⟩ ?_
  rintro W ⟨ew,b0,b1,b2⟩
  have HC:=Lib.hid (And.intro (b0.cell 0 rfl) (And.intro (b0.cell 1 rfl) (And.intro (b0.cell 2 rfl) (And.intro (b1.cell 0 rfl) (And.intro (b1.cell 1 rfl) (b1.cell 2 rfl))))))
  have HEW:=Lib.hid ew;have HB2:=Lib.hid b2
  clear b0 b1 b2 ew
  go_cut [7,8] from 10 to 13 (fun p q wx=>∃ i j:Nat,p = .pointer (some ⟨i,0,none⟩)∧q = .pointer (some ⟨j,0,none⟩)∧i≠j∧W.heap.size≤i∧W.heap.size≤j∧Ext W wx∧Blk wx i #[.string (qs a.x),.string (qs a.y),.string (qs a.z)] 108∧Blk wx j #[.string (qs b.x),.string (qs b.y),.string (qs b.z)] 108)
  case first =>
    go_region_held3 (fun w'=>w'.cell? ⟨w.heap.size,0,none⟩=some (.string (qs a.x))∧w'.cell? ⟨w.heap.size,1,none⟩=some (.string (qs a.y))∧w'.cell? ⟨w.heap.size,2,none⟩=some (.string (qs a.z))∧w'.cell? ⟨w.heap.size+1,0,none⟩=some (.string (qs b.x))∧w'.cell? ⟨w.heap.size+1,1,none⟩=some (.string (qs b.y))∧w'.cell? ⟨w.heap.size+1,2,none⟩=some (.string (qs b.z)))
      (exact keepsH6 (by repeat (first|exact Ext.refl _|apply Ext.drew|apply Ext.alloc|(refine Ext.setCell ?_ (by simp) _))) HC.out) (first
      | (go_at_call 71;((with_reducible refine (list_e ⟨qs a.x,qs a.y,qs a.z⟩ _).mono ?_);rintro e w' ⟨rfl,rfl⟩))
      | (go_at_call 71;refine (list_e ⟨qs b.x,qs b.y,qs b.z⟩ _).mono ?_;rintro e w' ⟨rfl,rfl⟩))
    all_goals (go_wp2;go_meet)
    all_goals (refine ⟨_,_,rfl,rfl,by omega,by omega,by omega,by (repeat (first|exact Ext.refl _|apply Ext.drew|apply Ext.alloc|(refine Ext.setCell ?_ (by simp) _))),?_,?_⟩)
    all_goals (repeat (first|(refine Blk.new' ?_;first|rfl|(simp only [World.size_alloc];done)|(simp only [World.size_alloc];omega))|apply Blk.alloc|apply Blk.drew))
  case rest =>
    obtain ⟨i,j,rfl,rfl,hij,hi,hj,hx,B1,B2⟩:=hcut
    have HIJ:=Lib.hid hij;have HI:=Lib.hid hi;have HJ:=Lib.hid hj
    have H1:=Lib.hid B1;have H2:=Lib.hid B2;have HX:=Lib.hid hx
    clear B1 B2 hx hij hi hj
    go_wp2_with fail
    go_loopw [14] (fun x wx=>∃ k:Nat,x = .int .i64 k∧k≤3∧Hid (Ext W wx∧Blk wx i (v3mix r a k) 108∧Blk wx j #[.string (qs b.x),.string (qs b.y),.string (qs b.z)] 108)) (fun x _=>3-(intOf x).toNat)
    case atStart=>exact ⟨0,rfl,by omega,Lib.hid ⟨HX.out,by rw [v3mix_0];exact H1.out,H2.out⟩⟩
    case round =>
      rename_i wx
      obtain ⟨k,rfl,hk,HH⟩:=hrel
      by_cases hk3:k<3
      · have hix:∀ (w:World) (b:Nat),(Instr.indexAt 108 (.pointer (some ⟨b,0,none⟩)) (.int .i64 (k:Int))).run Tryz.prog w = .ok (.pointer (some ⟨b,k,none⟩)) w:=fun w b=>tri_index w b k hk3
        have c0:=HH.out.2.1.drew.cell k (v3mix_at hk3);have k0:=HH.out.2.2.drew.cell k (v3cells_at hk3)
        go_upto_region 5 with fail
        go_region_with (first
          | (go_at_call 46;refine (rmul_c (v3at a k) (v3at b k) _ (HG.out.ext (HEW.out.trans HH.out.1.drew)) (HA.out.at k) (HB.out.at k) (by omega) (by omega)).mono ?_;rintro e w1 ⟨rfl,e0⟩;have R:=HH.out.2.1.drew.ext e0;have d0:=R.cell k (v3mix_at hk3);have f0:=R.free k;have HR:=Lib.hid R;clear R))
        all_goals
          have HN:Hid (Ext W (w1.setCell ⟨i,k,none⟩ (.string (qs ((v3at a k)*(v3at b k)))))∧Blk (w1.setCell ⟨i,k,none⟩ (.string (qs ((v3at a k)*(v3at b k))))) i (v3mix r a (k+1)) 108∧Blk (w1.setCell ⟨i,k,none⟩ (.string (qs ((v3at a k)*(v3at b k))))) j #[.string (qs b.x),.string (qs b.y),.string (qs b.z)] 108) :=
            Lib.hid ⟨(HH.out.1.drew.trans e0).setCell (p:=⟨i,k,none⟩) HI.out _,by rw [← v3mix_set hk3 (HAT.out k)];exact HR.out.set k _,(HH.out.2.2.drew.ext e0).other (a:=⟨i,k,none⟩) _ (fun h=>HIJ.out h.symm)⟩
          clear c0 d0 f0 k0 HR
          go_wp2_with fail
          go_roundw
          case rel=>exact ⟨k+1,by go_num,by omega,HN⟩
          case measure=>simp [intOf];omega
      · obtain rfl:k=3:=by omega
        have h3:=HH.out.2.1
        rw [v3mix_3] at h3
        have c0:=h3.cell 0 rfl;have c1:=h3.cell 1 rfl;have c2:=h3.cell 2 rfl
        have RR:=HB2.out.ext HH.out.1
        have r0:=RR.cell 0 rfl;have r1:=RR.cell 1 rfl;have r2:=RR.cell 2 rfl;have q0:=RR.free 0;have q1:=RR.free 1;have q2:=RR.free 2
        have HRR:=Lib.hid RR
        clear RR h3 hk3
        go_wp2
        refine wp_name (fun W'=>Ext w W'∧Blk W' (w.heap.size+1+1) #[.string (qs r.x),.string (qs r.y),.string (qs r.z)] 108) ⟨((((HEW.out.trans HH.out.1).setCell (by simp only [];omega) _).setCell (by simp only [];omega) _).setCell (by simp only [];omega) _),((HRR.out.set 0 _).set 1 _).set 2 _⟩ ?_
        clear c0 c1 c2 r0 r1 r2 q0 q1 q2
        rintro W' ⟨ex,R3⟩
        have g0:=R3.cell 0 rfl;have g1:=R3.cell 1 rfl;have g2:=R3.cell 2 rfl
        refine bodyPost_ret (v:=.agg #[.string (qs r.x),.string (qs r.y),.string (qs r.z)]) (by simp [results,Tryz.results131,go_sem,g0,g1,g2]) rfl ⟨rfl,ex⟩
end Go.Proofs.YtjeimihnoiephaaGreatDoor

namespace Go.Proofs.YtjeimihnoiephaaGreatDoor
open Go Go.RowKit
set_option maxHeartbeats 2000000 in
theorem scale1_c (x y q:Rat) (cb:Nat) {k m:Nat} (w:World) (g:Gd w) (hx:QB k x) (hq:QB m q) (hcb:Blk w cb #[.string (qs q)] 29) (hk:k≤3000) (hm:m≤3000):Calls Tryz.prog 132 #[.string (qs x),.string (qs y),.pointer (some ⟨cb,0,none⟩)] w (Ret w (.string (qs (x*q)))):=by
  have HG:=Lib.hid g
  have HX0:=Lib.hid hx
  have HQ:=Lib.hid hq
  have HCB:=Lib.hid hcb
  clear g hx hq hcb
  go_enter Tryz.func132,Tryz.ntmps132
  have cP_0:=HCB.out.cell 0 rfl
  go_wp2_with fail
  refine (rmul_c x q _ (HG.out.ext (Ext.refl w)) HX0.out HQ.out (by omega) (by omega)).mono ?_;rintro e w1 ⟨rfl,e1⟩
  have HX1:Hid (Ext w w1):=Lib.hid ((Ext.refl w).trans e1)
  clear e1 cP_0
  go_wp2
  go_ret
  exact ⟨rfl,HX1.out⟩

set_option maxHeartbeats 4000000 in
theorem each_scale (a b:V3) (q:Rat) (cb:Nat) {k m n:Nat} (w:World) (g:Gd w) (ha:VB k a) (hb:VB m b) (hq:QB n q) (hcb:Blk w cb #[.string (qs q)] 29) (hk:k≤3000) (hn:n≤3000):Calls Tryz.prog 131 #[vv a,vv b,.func (.func 132) #[] #[.pointer (some ⟨cb,0,none⟩)]] w (Ret w (vv ⟨a.x*q,a.y*q,a.z*q⟩)):=by
  have HG:=Lib.hid g
  have HA:=Lib.hid ha
  have HB:=Lib.hid hb
  have HQ:=Lib.hid hq
  have HCB:=Lib.hid hcb
  clear g ha hb hq hcb
  obtain ⟨r,hr⟩:∃ r:V3,r=⟨a.x*q,a.y*q,a.z*q⟩:=⟨_,rfl⟩
  have hat:∀ k:Nat,(v3at a k)*q=v3at r k:=by intro k;rw [hr];unfold v3at;split <;> (try split) <;> rfl
  have HAT:=Lib.hid hat;have HR0:=Lib.hid hr
  rw [show (⟨a.x*q,a.y*q,a.z*q⟩:V3)=r from hr.symm]
  clear hat hr
  go_enter Tryz.func131,Tryz.ntmps131
  go_wp2_with fail
  refine wp_name (fun W=>Ext w W∧Blk W w.heap.size #[.string (qs a.x),.string (qs a.y),.string (qs a.z)] 31∧Blk W (w.heap.size+1) #[.string (qs b.x),.string (qs b.y),.string (qs b.z)] 31∧Blk W (w.heap.size+1+1) #[.string ⟨#[]⟩,.string ⟨#[]⟩,.string ⟨#[]⟩] 108) ⟨(((Ext.refl _).alloc _).alloc _).alloc _,((Blk.new' rfl).alloc _).alloc _,(Blk.new' (by first|rfl|simp)).alloc _,Blk.new' (by first|rfl|simp)⟩ ?_
  rintro W ⟨ew,b0,b1,b2⟩
  have HC:=Lib.hid (And.intro (b0.cell 0 rfl) (And.intro (b0.cell 1 rfl) (And.intro (b0.cell 2 rfl) (And.intro (b1.cell 0 rfl) (And.intro (b1.cell 1 rfl) (b1.cell 2 rfl))))))
  have HEW:=Lib.hid ew;have HB2:=Lib.hid b2
  clear b0 b1 b2 ew
  go_cut [7,8] from 10 to 13 (fun p q wx=>∃ i j:Nat,p = .pointer (some ⟨i,0,none⟩)∧q = .pointer (some ⟨j,0,none⟩)∧i≠j∧W.heap.size≤i∧W.heap.size≤j∧Ext W wx∧Blk wx i #[.string (qs a.x),.string (qs a.y),.string (qs a.z)] 108∧Blk wx j #[.string (qs b.x),.string (qs b.y),.string (qs b.z)] 108)
  case first =>
    go_region_held3 (fun w'=>w'.cell? ⟨w.heap.size,0,none⟩=some (.string (qs a.x))∧w'.cell? ⟨w.heap.size,1,none⟩=some (.string (qs a.y))∧w'.cell? ⟨w.heap.size,2,none⟩=some (.string (qs a.z))∧w'.cell? ⟨w.heap.size+1,0,none⟩=some (.string (qs b.x))∧w'.cell? ⟨w.heap.size+1,1,none⟩=some (.string (qs b.y))∧w'.cell? ⟨w.heap.size+1,2,none⟩=some (.string (qs b.z)))
      (exact keepsH6 (by repeat (first|exact Ext.refl _|apply Ext.drew|apply Ext.alloc|(refine Ext.setCell ?_ (by simp) _))) HC.out) (first
      | (go_at_call 71;((with_reducible refine (list_e ⟨qs a.x,qs a.y,qs a.z⟩ _).mono ?_);rintro e w' ⟨rfl,rfl⟩))
      | (go_at_call 71;refine (list_e ⟨qs b.x,qs b.y,qs b.z⟩ _).mono ?_;rintro e w' ⟨rfl,rfl⟩))
    all_goals (go_wp2;go_meet)
    all_goals (refine ⟨_,_,rfl,rfl,by omega,by omega,by omega,by (repeat (first|exact Ext.refl _|apply Ext.drew|apply Ext.alloc|(refine Ext.setCell ?_ (by simp) _))),?_,?_⟩)
    all_goals (repeat (first|(refine Blk.new' ?_;first|rfl|(simp only [World.size_alloc];done)|(simp only [World.size_alloc];omega))|apply Blk.alloc|apply Blk.drew))
  case rest =>
    obtain ⟨i,j,rfl,rfl,hij,hi,hj,hx,B1,B2⟩:=hcut
    have HIJ:=Lib.hid hij;have HI:=Lib.hid hi;have HJ:=Lib.hid hj
    have H1:=Lib.hid B1;have H2:=Lib.hid B2;have HX:=Lib.hid hx
    clear B1 B2 hx hij hi hj
    go_wp2_with fail
    go_loopw [14] (fun x wx=>∃ k:Nat,x = .int .i64 k∧k≤3∧Hid (Ext W wx∧Blk wx i (v3mix r a k) 108∧Blk wx j #[.string (qs b.x),.string (qs b.y),.string (qs b.z)] 108)) (fun x _=>3-(intOf x).toNat)
    case atStart=>exact ⟨0,rfl,by omega,Lib.hid ⟨HX.out,by rw [v3mix_0];exact H1.out,H2.out⟩⟩
    case round =>
      rename_i wx
      obtain ⟨k,rfl,hk,HH⟩:=hrel
      by_cases hk3:k<3
      · have hix:∀ (w:World) (b:Nat),(Instr.indexAt 108 (.pointer (some ⟨b,0,none⟩)) (.int .i64 (k:Int))).run Tryz.prog w = .ok (.pointer (some ⟨b,k,none⟩)) w:=fun w b=>tri_index w b k hk3
        have c0:=HH.out.2.1.drew.cell k (v3mix_at hk3);have k0:=HH.out.2.2.drew.cell k (v3cells_at hk3)
        go_upto_region 5 with fail
        go_region_with (first
          | (go_at_call 132;refine (scale1_c (v3at a k) (v3at b k) q cb _ (HG.out.ext (HEW.out.trans HH.out.1.drew)) (HA.out.at k) HQ.out (HCB.out.ext (HEW.out.trans HH.out.1.drew)) (by omega) (by omega)).mono ?_;rintro e w1 ⟨rfl,e0⟩;have R:=HH.out.2.1.drew.ext e0;have d0:=R.cell k (v3mix_at hk3);have f0:=R.free k;have HR:=Lib.hid R;clear R))
        all_goals
          have HN:Hid (Ext W (w1.setCell ⟨i,k,none⟩ (.string (qs ((v3at a k)*q))))∧Blk (w1.setCell ⟨i,k,none⟩ (.string (qs ((v3at a k)*q)))) i (v3mix r a (k+1)) 108∧Blk (w1.setCell ⟨i,k,none⟩ (.string (qs ((v3at a k)*q)))) j #[.string (qs b.x),.string (qs b.y),.string (qs b.z)] 108) :=
            Lib.hid ⟨(HH.out.1.drew.trans e0).setCell (p:=⟨i,k,none⟩) HI.out _,by rw [← v3mix_set hk3 (HAT.out k)];exact HR.out.set k _,(HH.out.2.2.drew.ext e0).other (a:=⟨i,k,none⟩) _ (fun h=>HIJ.out h.symm)⟩
          clear c0 d0 f0 k0 HR
          go_wp2_with fail
          go_roundw
          case rel=>exact ⟨k+1,by go_num,by omega,HN⟩
          case measure=>simp [intOf];omega
      · obtain rfl:k=3:=by omega
        have h3:=HH.out.2.1
        rw [v3mix_3] at h3
        have c0:=h3.cell 0 rfl;have c1:=h3.cell 1 rfl;have c2:=h3.cell 2 rfl
        have RR:=HB2.out.ext HH.out.1
        have r0:=RR.cell 0 rfl;have r1:=RR.cell 1 rfl;have r2:=RR.cell 2 rfl;have q0:=RR.free 0;have q1:=RR.free 1;have q2:=RR.free 2
        have HRR:=Lib.hid RR
        clear RR h3 hk3
        go_wp2
        refine wp_name (fun W'=>Ext w W'∧Blk W' (w.heap.size+1+1) #[.string (qs r.x),.string (qs r.y),.string (qs r.z)] 108) ⟨((((HEW.out.trans HH.out.1).setCell (by simp only [];omega) _).setCell (by simp only [];omega) _).setCell (by simp only [];omega) _),((HRR.out.set 0 _).set 1 _).set 2 _⟩ ?_
        clear c0 c1 c2 r0 r1 r2 q0 q1 q2
        rintro W' ⟨ex,R3⟩
        have g0:=R3.cell 0 rfl;have g1:=R3.cell 1 rfl;have g2:=R3.cell 2 rfl
        refine bodyPost_ret (v:=.agg #[.string (qs r.x),.string (qs r.y),.string (qs r.z)]) (by simp [results,Tryz.results131,go_sem,g0,g1,g2]) rfl ⟨rfl,ex⟩
end Go.Proofs.YtjeimihnoiephaaGreatDoor

namespace Go.Proofs.YtjeimihnoiephaaGreatDoor
open Go Go.RowKit
theorem vzero_t (v:V3) (w:World) (h:v.x=0∧v.y=0∧v.z=0):Calls Tryz.prog 70 #[vv v] w (Ret w (.bool true)):=by
  have:=vzero_c v w;rwa [decide_eq_true h] at this
theorem vzero_f (v:V3) (w:World) (h:¬ (v.x=0∧v.y=0∧v.z=0)):Calls Tryz.prog 70 #[vv v] w (Ret w (.bool false)):=by
  have:=vzero_c v w;rwa [decide_eq_false h] at this
def z3 (x y z:Rat):Bool:=decide (x=0∧y=0∧z=0)
set_option maxHeartbeats 2000000 in
theorem vminor_c (a b c d:Rat) {k m n o:Nat} (w:World) (g:Gd w) (ha:QB k a) (hb:QB m b) (hc:QB n c) (hd:QB o d) (hk:k≤1400) (hm:m≤1400) (hn:n≤1400) (ho:o≤1400):Calls Tryz.prog 135 #[.string (qs a),.string (qs b),.string (qs c),.string (qs d)] w (Ret w (.string (qs (a*d-b*c)))):=by
  have HA:=Lib.hid ha
  have HB:=Lib.hid hb
  have HC:=Lib.hid hc
  have HD:=Lib.hid hd
  have HG:=Lib.hid g
  clear ha hb hc hd g
  go_enter Tryz.func135,Tryz.ntmps135
  go_wp2_with fail
  refine (rmul_c a d _ (HG.out.ext (Ext.refl w)) HA.out HD.out (by omega) (by omega)).mono ?_;rintro e w1 ⟨rfl,e1⟩
  have HX1:Hid (Ext w w1):=Lib.hid ((Ext.refl w).trans e1)
  clear e1
  go_wp2_with fail
  refine (rmul_c b c _ (HG.out.ext HX1.out) HB.out HC.out (by omega) (by omega)).mono ?_;rintro e w2 ⟨rfl,e2⟩
  have HX2:Hid (Ext w w2):=Lib.hid (HX1.out.trans e2)
  clear e2
  go_wp2_with fail
  refine (rsub_c (a*d) (b*c) _ (HG.out.ext HX2.out) (HA.out.mul HD.out) (HB.out.mul HC.out) (by omega) (by omega)).mono ?_;rintro e w3 ⟨rfl,e3⟩
  have HX3:Hid (Ext w w3):=Lib.hid (HX2.out.trans e3)
  clear e3
  go_wp2
  go_ret
  exact ⟨rfl,HX3.out⟩

set_option maxHeartbeats 2000000 in
theorem vcross0_c (a b:V3) {k m:Nat} (w:World) (g:Gd w) (ha:VB k a) (hb:VB m b) (hk:k≤900) (hm:m≤900):Calls Tryz.prog 82 #[.agg #[.string (qs a.x),.string (qs a.y),.string (qs a.z)],.agg #[.string (qs b.x),.string (qs b.y),.string (qs b.z)]] w (Ret w (.agg #[.string (qs (a.y*b.z-a.z*b.y)),.string (qs (a.z*b.x-a.x*b.z)),.string (qs (a.x*b.y-a.y*b.x))])):=by
  have HA:=Lib.hid ha
  have HB:=Lib.hid hb
  have HG:=Lib.hid g
  clear ha hb g
  go_enter Tryz.func82,Tryz.ntmps82
  go_wp2_with fail
  refine wp_name (fun W=>Ext w W∧Blk W (w.heap.size) #[.string (qs a.x),.string (qs a.y),.string (qs a.z)] 31∧Blk W (w.heap.size+1) #[.string (qs b.x),.string (qs b.y),.string (qs b.z)] 31∧Blk W (w.heap.size+1+1) #[.string ⟨#[]⟩,.string ⟨#[]⟩,.string ⟨#[]⟩] 31) ⟨((((Ext.refl w).alloc _).alloc _).alloc _),(((Blk.new' (w:=_) (cs:=#[.string (qs a.x),.string (qs a.y),.string (qs a.z)]) (t:=31) (by first|rfl|(simp only [World.size_alloc];done)|(simp only [World.size_alloc];omega)|simp)).alloc _).alloc _),((Blk.new' (w:=_) (cs:=#[.string (qs b.x),.string (qs b.y),.string (qs b.z)]) (t:=31) (by first|rfl|(simp only [World.size_alloc];done)|(simp only [World.size_alloc];omega)|simp)).alloc _),(Blk.new' (w:=_) (cs:=#[.string ⟨#[]⟩,.string ⟨#[]⟩,.string ⟨#[]⟩]) (t:=31) (by first|rfl|(simp only [World.size_alloc];done)|(simp only [World.size_alloc];omega)|simp))⟩ ?_
  rintro w1 ⟨e1,bB0_1,bB1_1,bB2_1⟩
  have HX1:=Lib.hid e1;have HB0_1:=Lib.hid bB0_1;have HB1_1:=Lib.hid bB1_1;have HB2_1:=Lib.hid bB2_1
  have HGEB0:Hid (w.heap.size≤w.heap.size):=Lib.hid (by first|omega|(simp only [];omega)|(simp;omega))
  have HGEB1:Hid (w.heap.size≤w.heap.size+1):=Lib.hid (by first|omega|(simp only [];omega)|(simp;omega))
  have HGEB2:Hid (w.heap.size≤w.heap.size+1+1):=Lib.hid (by first|omega|(simp only [];omega)|(simp;omega))
  clear e1 bB0_1 bB1_1 bB2_1
  have hS1:w1.cell? ⟨w.heap.size,1,none⟩=some (.string (qs a.y))∧w1.cell? ⟨w.heap.size,2,none⟩=some (.string (qs a.z))∧w1.cell? ⟨w.heap.size+1,1,none⟩=some (.string (qs b.y))∧w1.cell? ⟨w.heap.size+1,2,none⟩=some (.string (qs b.z))∧w1.cell? ⟨w.heap.size,0,none⟩=some (.string (qs a.x))∧w1.cell? ⟨w.heap.size+1,0,none⟩=some (.string (qs b.x)):=⟨HB0_1.out.cell 1 rfl,HB0_1.out.cell 2 rfl,HB1_1.out.cell 1 rfl,HB1_1.out.cell 2 rfl,HB0_1.out.cell 0 rfl,HB1_1.out.cell 0 rfl⟩
  have HS1:=Lib.hid hS1;clear hS1
  go_region_held3 (fun w'=>w'.cell? ⟨w.heap.size,1,none⟩=some (.string (qs a.y))∧w'.cell? ⟨w.heap.size,2,none⟩=some (.string (qs a.z))∧w'.cell? ⟨w.heap.size+1,1,none⟩=some (.string (qs b.y))∧w'.cell? ⟨w.heap.size+1,2,none⟩=some (.string (qs b.z))∧w'.cell? ⟨w.heap.size,0,none⟩=some (.string (qs a.x))∧w'.cell? ⟨w.heap.size+1,0,none⟩=some (.string (qs b.x)))
    (((try simp only [cell_set_ne (show w.heap.size≠w.heap.size+1+1 from by first|omega|(simp only [];omega)|(simp;omega)),cell_set_ne (show w.heap.size+1≠w.heap.size+1+1 from by first|omega|(simp only [];omega)|(simp;omega))]);exact keepsH6 (by repeat (first|assumption|exact Ext.refl _|apply Ext.drew|apply Ext.alloc|(refine Ext.setCell ?_ (by first|omega|(simp only [];omega)|(simp;omega)) _)|(refine Ext.trans ?_ (by assumption)))) HS1.out)) ((first
      | (go_at_call 135;((with_reducible refine (vminor_c a.y a.z b.y b.z _ (HG.out.ext (HX1.out.trans (by repeat (first|assumption|exact Ext.refl _|apply Ext.drew|apply Ext.alloc|(refine Ext.setCell ?_ (by first|omega|(simp only [];omega)|(simp;omega)) _)|(refine Ext.trans ?_ (by assumption)))))) HA.out.y HA.out.z HB.out.y HB.out.z (by omega) (by omega) (by omega) (by omega)).mono ?_);rintro e w2 ⟨rfl,e2⟩))
      | (go_at_call 135;((with_reducible refine (vminor_c a.z a.x b.z b.x _ (HG.out.ext (HX1.out.trans (by repeat (first|assumption|exact Ext.refl _|apply Ext.drew|apply Ext.alloc|(refine Ext.setCell ?_ (by first|omega|(simp only [];omega)|(simp;omega)) _)|(refine Ext.trans ?_ (by assumption)))))) HA.out.z HA.out.x HB.out.z HB.out.x (by omega) (by omega) (by omega) (by omega)).mono ?_);rintro e w3 ⟨rfl,e3⟩))
      | (go_at_call 135;((with_reducible refine (vminor_c a.x a.y b.x b.y _ (HG.out.ext (HX1.out.trans (by repeat (first|assumption|exact Ext.refl _|apply Ext.drew|apply Ext.alloc|(refine Ext.setCell ?_ (by first|omega|(simp only [];omega)|(simp;omega)) _)|(refine Ext.trans ?_ (by assumption)))))) HA.out.x HA.out.y HB.out.x HB.out.y (by omega) (by omega) (by omega) (by omega)).mono ?_);rintro e w4 ⟨rfl,e4⟩;have RB2:=Blk.ext HB2_1.out (w':=w4) (by repeat (first|assumption|exact Ext.refl _|apply Ext.drew|(refine Ext.trans ?_ (by assumption))));have cB2_0:=RB2.cell 0 rfl;have fB2_0:=RB2.free 0;have cB2_1:=RB2.cell 1 rfl;have fB2_1:=RB2.free 1;have cB2_2:=RB2.cell 2 rfl;have fB2_2:=RB2.free 2;have HRB2:=Lib.hid RB2;clear RB2))))
  refine wp_name (fun W=>Ext w W∧Blk W (w.heap.size+1+1) #[.string (qs (a.y*b.z-a.z*b.y)),.string (qs (a.z*b.x-a.x*b.z)),.string (qs (a.x*b.y-a.y*b.x))] 31) ⟨((((HX1.out.trans ((((Ext.refl _).drew.trans e2).trans e3).trans e4)).setCell (by have:=HGEB2.out;first|omega|(simp only [];omega)|(simp;omega)) _).setCell (by have:=HGEB2.out;first|omega|(simp only [];omega)|(simp;omega)) _).setCell (by have:=HGEB2.out;first|omega|(simp only [];omega)|(simp;omega)) _),((((Blk.ext HB2_1.out ((((Ext.refl _).drew.trans e2).trans e3).trans e4)).set 0 (.string (qs (a.y*b.z-a.z*b.y)))).set 1 (.string (qs (a.z*b.x-a.x*b.z)))).set 2 (.string (qs (a.x*b.y-a.y*b.x))))⟩ ?_
  clear cB2_0 fB2_0 cB2_1 fB2_1 cB2_2 fB2_2
  rintro w5 ⟨e5,bB2_5⟩
  have HX5:=Lib.hid e5;have HB2_5:=Lib.hid bB2_5
  clear e5 bB2_5
  go_wp2_with fail
  have gB2_0:=HB2_5.out.cell 0 rfl
  have gB2_1:=HB2_5.out.cell 1 rfl
  have gB2_2:=HB2_5.out.cell 2 rfl
  refine bodyPost_ret (v:=.agg #[.string (qs (a.y*b.z-a.z*b.y)),.string (qs (a.z*b.x-a.x*b.z)),.string (qs (a.x*b.y-a.y*b.x))]) (by simp [results,Tryz.results82,go_sem,gB2_0,gB2_1,gB2_2]) rfl ⟨rfl,HX5.out⟩

set_option maxHeartbeats 2000000 in
theorem vdot0_c (a b:V3) {k m:Nat} (w:World) (g:Gd w) (ha:VB k a) (hb:VB m b) (hk:k+m≤1490) (hm:m≤1490):Calls Tryz.prog 81 #[.agg #[.string (qs a.x),.string (qs a.y),.string (qs a.z)],.agg #[.string (qs b.x),.string (qs b.y),.string (qs b.z)]] w (Ret w (.string (qs (a.x*b.x+a.y*b.y+a.z*b.z)))):=by
  have HA:=Lib.hid ha
  have HB:=Lib.hid hb
  have HG:=Lib.hid g
  clear ha hb g
  go_enter Tryz.func81,Tryz.ntmps81
  go_wp2_with fail
  refine (each_mul a b _ (HG.out.ext (((Ext.refl w).alloc _).alloc _)) HA.out HB.out (by omega) (by omega)).mono ?_;rintro e w1 ⟨rfl,e1⟩
  have HX1:Hid (Ext w w1):=Lib.hid ((((Ext.refl w).alloc _).alloc _).trans e1)
  clear e1
  go_wp2_with fail
  refine (sum3_c (k:=k+m) (a.x*b.x) (a.y*b.y) (a.z*b.z) (w1.heap.size) _ (HG.out.ext (HX1.out.alloc _)) (HA.out.x.mul HB.out.x) (HA.out.y.mul HB.out.y) (HA.out.z.mul HB.out.z) (Blk.new' (w:=_) (cs:=#[.string (qs (a.x*b.x)),.string (qs (a.y*b.y)),.string (qs (a.z*b.z))]) (t:=108) (by first|rfl|(simp only [World.size_alloc];done)|(simp only [World.size_alloc];omega)|simp)) (by omega)).mono ?_;rintro e w2 ⟨rfl,e2⟩
  have HX2:Hid (Ext w w2):=Lib.hid ((HX1.out.alloc _).trans e2)
  have HB2_2:Hid (Blk w2 (w1.heap.size) #[.string (qs (a.x*b.x)),.string (qs (a.y*b.y)),.string (qs (a.z*b.z))] 108):=Lib.hid (Blk.ext (Blk.new' (w:=_) (cs:=#[.string (qs (a.x*b.x)),.string (qs (a.y*b.y)),.string (qs (a.z*b.z))]) (t:=108) (by first|rfl|(simp only [World.size_alloc];done)|(simp only [World.size_alloc];omega)|simp)) e2)
  have HGEB2:Hid (w.heap.size≤w1.heap.size):=Lib.hid (by have:=HX1.out.size;first|omega|(simp only [];omega)|(simp;omega))
  clear e2
  go_wp2
  go_ret
  exact ⟨rfl,HX2.out⟩

set_option maxHeartbeats 2000000 in
theorem vscale0_c (a:V3) (q:Rat) {k m:Nat} (w:World) (g:Gd w) (ha:VB k a) (hq:QB m q) (hk:k≤3000) (hm:m≤3000):Calls Tryz.prog 76 #[.agg #[.string (qs a.x),.string (qs a.y),.string (qs a.z)],.string (qs q)] w (Ret w (.agg #[.string (qs (a.x*q)),.string (qs (a.y*q)),.string (qs (a.z*q))])):=by
  have HA:=Lib.hid ha
  have HQ:=Lib.hid hq
  have HG:=Lib.hid g
  clear ha hq g
  go_enter Tryz.func76,Tryz.ntmps76
  go_wp2_with fail
  refine (each_scale a a q (w.heap.size+1) _ (HG.out.ext ((((Ext.refl w).alloc _).alloc _).alloc _)) HA.out HA.out HQ.out ((Blk.new' (w:=_) (cs:=#[.string (qs q)]) (t:=29) (by first|rfl|(simp only [World.size_alloc];done)|(simp only [World.size_alloc];omega)|simp)).alloc _) (by omega) (by omega)).mono ?_;rintro e w1 ⟨rfl,e1⟩
  have HX1:Hid (Ext w w1):=Lib.hid (((((Ext.refl w).alloc _).alloc _).alloc _).trans e1)
  have HB1_1:Hid (Blk w1 (w.heap.size+1) #[.string (qs q)] 29):=Lib.hid (Blk.ext ((Blk.new' (w:=_) (cs:=#[.string (qs q)]) (t:=29) (by first|rfl|(simp only [World.size_alloc];done)|(simp only [World.size_alloc];omega)|simp)).alloc _) e1)
  have HB2_1:Hid (Blk w1 (w.heap.size+1+1) #[.string ⟨#[]⟩,.string ⟨#[]⟩,.string ⟨#[]⟩] 108):=Lib.hid (Blk.ext (Blk.new' (w:=_) (cs:=#[.string ⟨#[]⟩,.string ⟨#[]⟩,.string ⟨#[]⟩]) (t:=108) (by first|rfl|(simp only [World.size_alloc];done)|(simp only [World.size_alloc];omega)|simp)) e1)
  have HGEB1:Hid (w.heap.size≤w.heap.size+1):=Lib.hid (by first|omega|(simp only [];omega)|(simp;omega))
  have HGEB2:Hid (w.heap.size≤w.heap.size+1+1):=Lib.hid (by first|omega|(simp only [];omega)|(simp;omega))
  clear e1
  have c2_0:=HB2_1.out.cell 0 rfl
  have f2_0:=HB2_1.out.free 0
  have c2_1:=HB2_1.out.cell 1 rfl
  have f2_1:=HB2_1.out.free 1
  have c2_2:=HB2_1.out.cell 2 rfl
  have f2_2:=HB2_1.out.free 2
  go_wp2_with fail
  refine wp_name (fun W=>Ext w W∧Blk W (w.heap.size+1+1) #[.string (qs (a.x*q)),.string (qs (a.y*q)),.string (qs (a.z*q))] 108) ⟨(((HX1.out.setCell (by have:=HGEB2.out;first|omega|(simp only [];omega)|(simp;omega)) _).setCell (by have:=HGEB2.out;first|omega|(simp only [];omega)|(simp;omega)) _).setCell (by have:=HGEB2.out;first|omega|(simp only [];omega)|(simp;omega)) _),(((HB2_1.out.set 0 (.string (qs (a.x*q)))).set 1 (.string (qs (a.y*q)))).set 2 (.string (qs (a.z*q))))⟩ ?_
  rintro w2 ⟨e2,bB2_2⟩
  have HX2:=Lib.hid e2;have HB2_2:=Lib.hid bB2_2
  clear e2 bB2_2 c2_0 f2_0 c2_1 f2_1 c2_2 f2_2
  have gB2_0:=HB2_2.out.cell 0 rfl
  have gB2_1:=HB2_2.out.cell 1 rfl
  have gB2_2:=HB2_2.out.cell 2 rfl
  refine bodyPost_ret (v:=.agg #[.string (qs (a.x*q)),.string (qs (a.y*q)),.string (qs (a.z*q))]) (by simp [results,Tryz.results76,go_sem,gB2_0,gB2_1,gB2_2]) rfl ⟨rfl,HX2.out⟩

end Go.Proofs.YtjeimihnoiephaaGreatDoor

namespace Go.Proofs.YtjeimihnoiephaaGreatDoor
open Go Go.RowKit
set_option maxHeartbeats 2000000 in
theorem vDot_ok (a b:V3) (w:World) (g:Gd w) (ha:VB 200 a) (hb:VB 200 b) (hr:QB 200 (a.x*b.x+a.y*b.y+a.z*b.z)):Calls Tryz.prog 37 #[.agg #[.string (qs a.x),.string (qs a.y),.string (qs a.z)],.agg #[.string (qs b.x),.string (qs b.y),.string (qs b.z)]] w (Ret w (.tuple #[.string (qs (a.x*b.x+a.y*b.y+a.z*b.z)),.int .i64 0])):=by
  have HA:=Lib.hid ha
  have HB:=Lib.hid hb
  have HR:=Lib.hid hr
  have HG:=Lib.hid g
  clear ha hb hr g
  go_enter Tryz.func37,Tryz.ntmps37
  go_wp2_with fail
  refine (vectors2_ok a b (w.heap.size+1+1) _ (HG.out.ext ((((Ext.refl w).alloc _).alloc _).alloc _)) (HA.out.mono (by omega)) (HB.out.mono (by omega)) (Blk.new' (w:=_) (cs:=#[.string (qs a.x),.string (qs a.y),.string (qs a.z),.string (qs b.x),.string (qs b.y),.string (qs b.z)]) (t:=31) (by first|rfl|(simp only [World.size_alloc];done)|(simp only [World.size_alloc];omega)|simp))).mono ?_;rintro e w1 ⟨rfl,e1⟩
  have HX1:Hid (Ext w w1):=Lib.hid (((((Ext.refl w).alloc _).alloc _).alloc _).trans e1)
  have HB0_1:Hid (Blk w1 (w.heap.size) #[.string (qs a.x),.string (qs a.y),.string (qs a.z)] 31):=Lib.hid (Blk.ext (((Blk.new' (w:=_) (cs:=#[.string (qs a.x),.string (qs a.y),.string (qs a.z)]) (t:=31) (by first|rfl|(simp only [World.size_alloc];done)|(simp only [World.size_alloc];omega)|simp)).alloc _).alloc _) e1)
  have HB1_1:Hid (Blk w1 (w.heap.size+1) #[.string (qs b.x),.string (qs b.y),.string (qs b.z)] 31):=Lib.hid (Blk.ext ((Blk.new' (w:=_) (cs:=#[.string (qs b.x),.string (qs b.y),.string (qs b.z)]) (t:=31) (by first|rfl|(simp only [World.size_alloc];done)|(simp only [World.size_alloc];omega)|simp)).alloc _) e1)
  have HB2_1:Hid (Blk w1 (w.heap.size+1+1) #[.string (qs a.x),.string (qs a.y),.string (qs a.z),.string (qs b.x),.string (qs b.y),.string (qs b.z)] 31):=Lib.hid (Blk.ext (Blk.new' (w:=_) (cs:=#[.string (qs a.x),.string (qs a.y),.string (qs a.z),.string (qs b.x),.string (qs b.y),.string (qs b.z)]) (t:=31) (by first|rfl|(simp only [World.size_alloc];done)|(simp only [World.size_alloc];omega)|simp)) e1)
  have HGEB0:Hid (w.heap.size≤w.heap.size):=Lib.hid (by first|omega|(simp only [];omega)|(simp;omega))
  have HGEB1:Hid (w.heap.size≤w.heap.size+1):=Lib.hid (by first|omega|(simp only [];omega)|(simp;omega))
  have HGEB2:Hid (w.heap.size≤w.heap.size+1+1):=Lib.hid (by first|omega|(simp only [];omega)|(simp;omega))
  clear e1
  have c0_0:=HB0_1.out.cell 0 rfl
  have c0_1:=HB0_1.out.cell 1 rfl
  have c0_2:=HB0_1.out.cell 2 rfl
  have c1_0:=HB1_1.out.cell 0 rfl
  have c1_1:=HB1_1.out.cell 1 rfl
  have c1_2:=HB1_1.out.cell 2 rfl
  go_wp2_with fail
  refine (vdot0_c a b _ (HG.out.ext HX1.out) HA.out HB.out (by omega) (by omega)).mono ?_;rintro e w2 ⟨rfl,e2⟩
  have HX2:Hid (Ext w w2):=Lib.hid (HX1.out.trans e2)
  clear e2 c0_0 c0_1 c0_2 c1_0 c1_1 c1_2
  go_wp2_with fail
  refine (number_no (a.x*b.x+a.y*b.y+a.z*b.z) _ HR.out).mono ?_;rintro e w3 ⟨rfl,e3⟩
  have HX3:Hid (Ext w w3):=Lib.hid (HX2.out.trans e3)
  clear e3
  go_wp2
  go_ret2
  exact ⟨rfl,HX3.out⟩

set_option maxHeartbeats 2000000 in
theorem vCross_ok (a b:V3) (w:World) (g:Gd w) (ha:VB 200 a) (hb:VB 200 b) (hr:VB 200 ⟨a.y*b.z-a.z*b.y,a.z*b.x-a.x*b.z,a.x*b.y-a.y*b.x⟩):Calls Tryz.prog 38 #[.agg #[.string (qs a.x),.string (qs a.y),.string (qs a.z)],.agg #[.string (qs b.x),.string (qs b.y),.string (qs b.z)]] w (Ret w (.tuple #[.agg #[.string (qs (a.y*b.z-a.z*b.y)),.string (qs (a.z*b.x-a.x*b.z)),.string (qs (a.x*b.y-a.y*b.x))],.int .i64 0])):=by
  have HA:=Lib.hid ha
  have HB:=Lib.hid hb
  have HR:=Lib.hid hr
  have HG:=Lib.hid g
  clear ha hb hr g
  go_enter Tryz.func38,Tryz.ntmps38
  go_wp2_with fail
  refine (vectors2_ok a b (w.heap.size+1+1+1) _ (HG.out.ext (((((Ext.refl w).alloc _).alloc _).alloc _).alloc _)) (HA.out.mono (by omega)) (HB.out.mono (by omega)) (Blk.new' (w:=_) (cs:=#[.string (qs a.x),.string (qs a.y),.string (qs a.z),.string (qs b.x),.string (qs b.y),.string (qs b.z)]) (t:=31) (by first|rfl|(simp only [World.size_alloc];done)|(simp only [World.size_alloc];omega)|simp))).mono ?_;rintro e w1 ⟨rfl,e1⟩
  have HX1:Hid (Ext w w1):=Lib.hid ((((((Ext.refl w).alloc _).alloc _).alloc _).alloc _).trans e1)
  have HB0_1:Hid (Blk w1 (w.heap.size) #[.string (qs a.x),.string (qs a.y),.string (qs a.z)] 31):=Lib.hid (Blk.ext ((((Blk.new' (w:=_) (cs:=#[.string (qs a.x),.string (qs a.y),.string (qs a.z)]) (t:=31) (by first|rfl|(simp only [World.size_alloc];done)|(simp only [World.size_alloc];omega)|simp)).alloc _).alloc _).alloc _) e1)
  have HB1_1:Hid (Blk w1 (w.heap.size+1) #[.string (qs b.x),.string (qs b.y),.string (qs b.z)] 31):=Lib.hid (Blk.ext (((Blk.new' (w:=_) (cs:=#[.string (qs b.x),.string (qs b.y),.string (qs b.z)]) (t:=31) (by first|rfl|(simp only [World.size_alloc];done)|(simp only [World.size_alloc];omega)|simp)).alloc _).alloc _) e1)
  have HB2_1:Hid (Blk w1 (w.heap.size+1+1) #[.string ⟨#[]⟩,.string ⟨#[]⟩,.string ⟨#[]⟩] 31):=Lib.hid (Blk.ext ((Blk.new' (w:=_) (cs:=#[.string ⟨#[]⟩,.string ⟨#[]⟩,.string ⟨#[]⟩]) (t:=31) (by first|rfl|(simp only [World.size_alloc];done)|(simp only [World.size_alloc];omega)|simp)).alloc _) e1)
  have HB3_1:Hid (Blk w1 (w.heap.size+1+1+1) #[.string (qs a.x),.string (qs a.y),.string (qs a.z),.string (qs b.x),.string (qs b.y),.string (qs b.z)] 31):=Lib.hid (Blk.ext (Blk.new' (w:=_) (cs:=#[.string (qs a.x),.string (qs a.y),.string (qs a.z),.string (qs b.x),.string (qs b.y),.string (qs b.z)]) (t:=31) (by first|rfl|(simp only [World.size_alloc];done)|(simp only [World.size_alloc];omega)|simp)) e1)
  have HGEB0:Hid (w.heap.size≤w.heap.size):=Lib.hid (by first|omega|(simp only [];omega)|(simp;omega))
  have HGEB1:Hid (w.heap.size≤w.heap.size+1):=Lib.hid (by first|omega|(simp only [];omega)|(simp;omega))
  have HGEB2:Hid (w.heap.size≤w.heap.size+1+1):=Lib.hid (by first|omega|(simp only [];omega)|(simp;omega))
  have HGEB3:Hid (w.heap.size≤w.heap.size+1+1+1):=Lib.hid (by first|omega|(simp only [];omega)|(simp;omega))
  clear e1
  have c0_0:=HB0_1.out.cell 0 rfl
  have c0_1:=HB0_1.out.cell 1 rfl
  have c0_2:=HB0_1.out.cell 2 rfl
  have c1_0:=HB1_1.out.cell 0 rfl
  have c1_1:=HB1_1.out.cell 1 rfl
  have c1_2:=HB1_1.out.cell 2 rfl
  go_wp2_with fail
  refine (vcross0_c a b _ (HG.out.ext HX1.out) HA.out HB.out (by omega) (by omega)).mono ?_;rintro e w2 ⟨rfl,e2⟩
  have HX2:Hid (Ext w w2):=Lib.hid (HX1.out.trans e2)
  have HB2_2:=Lib.hid (Blk.ext HB2_1.out e2)
  clear e2 c0_0 c0_1 c0_2 c1_0 c1_1 c1_2
  go_wp2_with fail
  refine (list_c ⟨qs (a.y*b.z-a.z*b.y),qs (a.z*b.x-a.x*b.z),qs (a.x*b.y-a.y*b.x)⟩ _).mono ?_;rintro e w3 ⟨rfl,e3⟩
  have HX3:Hid (Ext w w3):=Lib.hid (HX2.out.trans e3)
  have HB2_3:=Lib.hid (Blk.ext HB2_2.out e3)
  clear e3
  go_wp2_with fail
  refine (result_3 (a.y*b.z-a.z*b.y) (a.z*b.x-a.x*b.z) (a.x*b.y-a.y*b.x) _ HR.out.x HR.out.y HR.out.z).mono ?_;rintro e w4 ⟨rfl,e4⟩
  have HX4:Hid (Ext w w4):=Lib.hid (HX3.out.trans e4)
  have HB2_4:=Lib.hid (Blk.ext HB2_3.out e4)
  clear e4
  have c2_0:=HB2_4.out.cell 0 rfl
  have f2_0:=HB2_4.out.free 0
  have c2_1:=HB2_4.out.cell 1 rfl
  have f2_1:=HB2_4.out.free 1
  have c2_2:=HB2_4.out.cell 2 rfl
  have f2_2:=HB2_4.out.free 2
  go_wp2_with fail
  refine wp_name (fun W=>Ext w W∧Blk W (w.heap.size+1+1) #[.string (qs (a.y*b.z-a.z*b.y)),.string (qs (a.z*b.x-a.x*b.z)),.string (qs (a.x*b.y-a.y*b.x))] 31) ⟨(((HX4.out.setCell (by have:=HGEB2.out;first|omega|(simp only [];omega)|(simp;omega)) _).setCell (by have:=HGEB2.out;first|omega|(simp only [];omega)|(simp;omega)) _).setCell (by have:=HGEB2.out;first|omega|(simp only [];omega)|(simp;omega)) _),(((HB2_4.out.set 0 (.string (qs (a.y*b.z-a.z*b.y)))).set 1 (.string (qs (a.z*b.x-a.x*b.z)))).set 2 (.string (qs (a.x*b.y-a.y*b.x))))⟩ ?_
  rintro w5 ⟨e5,bB2_5⟩
  have HX5:=Lib.hid e5;have HB2_5:=Lib.hid bB2_5
  clear e5 bB2_5 c2_0 f2_0 c2_1 f2_1 c2_2 f2_2
  have gB2_0:=HB2_5.out.cell 0 rfl
  have gB2_1:=HB2_5.out.cell 1 rfl
  have gB2_2:=HB2_5.out.cell 2 rfl
  refine bodyPost_ret (v:=.tuple #[.agg #[.string (qs (a.y*b.z-a.z*b.y)),.string (qs (a.z*b.x-a.x*b.z)),.string (qs (a.x*b.y-a.y*b.x))],.int .i64 0]) (by simp [results,Tryz.results38,go_sem,gB2_0,gB2_1,gB2_2]) rfl ⟨rfl,HX5.out⟩

end Go.Proofs.YtjeimihnoiephaaGreatDoor

namespace Go.Proofs.YtjeimihnoiephaaGreatDoor
open Go Go.RowKit
theorem vCheck_ok (v:V3) (w:World) (g:Gd w) (hv:VB 200 v):Calls Tryz.prog 43 #[vv v] w (Ret w (.int .i64 0)):=by
  have:=vcheck_c ⟨qs v.x,qs v.y,qs v.z⟩ w g hv.ts
  rwa [show terr (T3.l ⟨qs v.x,qs v.y,qs v.z⟩)=0 from terr_0 hv.all] at this
end Go.Proofs.YtjeimihnoiephaaGreatDoor

namespace Go.Proofs.YtjeimihnoiephaaGreatDoor
open Go Go.RowKit
theorem QB.inum {k:Nat} {q:Rat} (h:QB k q):IB k q.num:=⟨h.num⟩
theorem QB.iden {k:Nat} {q:Rat} (h:QB k q):IB k (q.den:Int):=⟨by simpa using h.den⟩
theorem IB.zero:IB 1 0:=⟨by decide⟩
theorem IB.one:IB 1 1:=⟨by decide⟩
theorem IB.gcd {k m:Nat} {a b:Int} (ha:IB k a) (hb:IB m b):IB (max k m) (Int.gcd a b:Int):=by
  by_cases h:b=0
  · subst h;have:=ha.mono (Nat.le_max_left k m);exact this.of_le (by simp)
  · exact (hb.mono (Nat.le_max_right k m)).of_le (by rw [Int.natAbs_natCast];exact Nat.le_of_dvd (by omega) (Int.gcd_dvd_natAbs_right a b))
theorem IB.div {k:Nat} {a:Int} (ha:IB k a) (b:Int):IB k (a / b):=ha.of_le (Int.natAbs_ediv_le_natAbs a b)
theorem gcd_1 (b:Int) {m:Nat} (w:World) (g:Gd w) (hb:IB m b) (hm:m≤9000):Calls Tryz.prog 73 #[.string ⟨#[49]⟩,.string (zs b)] w (Ret w (.string (zs (Int.gcd 1 b:Int)))):=by
  have:=gcd_c 1 b w g IB.one hb (by decide) hm;rwa [zs_one] at this
theorem gcd_0 (b:Int) {m:Nat} (w:World) (g:Gd w) (hb:IB m b) (hm:m≤9000):Calls Tryz.prog 73 #[.string ⟨#[48]⟩,.string (zs b)] w (Ret w (.string (zs (Int.gcd 0 b:Int)))):=by
  have:=gcd_c 0 b w g IB.zero hb (by decide) hm;rwa [zs_zero] at this
theorem imul_1 (b:Int) {m:Nat} (w:World) (g:Gd w) (hb:IB m b) (hm:m≤9000):Calls Tryz.prog 75 #[.string ⟨#[49]⟩,.string (zs b)] w (Ret w (.string (zs (1*b)))):=by
  have:=mul_c 1 b w g IB.one hb (by decide) hm;rwa [zs_one] at this
theorem vscale0_z (a:V3) (n:Int) {k m:Nat} (w:World) (g:Gd w) (ha:VB k a) (hn:IB m n) (hk:k≤3000) (hm:m≤3000) (h1:1≤m):Calls Tryz.prog 76 #[vv a,.string (zs n)] w (Ret w (.agg #[.string (qs (a.x*(n:Rat))),.string (qs (a.y*(n:Rat))),.string (qs (a.z*(n:Rat)))])):=by
  have:=vscale0_c a (n:Rat) w g ha (QB.int hn h1) hk hm;rwa [qs_int] at this
theorem new_1 (d : Nat) (hd : d ≠ 0) {m : Nat} (w : World) (g : Gd w) (hdb : IB m (d : Int)) (hm : m ≤ 8000) :
    Calls Tryz.prog 77 #[.string ⟨#[49]⟩,.string (zs (d:Int))] w (Ret w (.tuple #[.string (qs (mkRat 1 d)),.int .i64 0])):=by
  have:=new_c 1 d hd w g IB.one hdb (by decide) hm;rwa [zs_one] at this
theorem QB.mk1 {m:Nat} {d:Nat} (hd:d≠0) (h:IB m (d:Int)) (hm:1≤m):QB m (mkRat 1 d):=QB.mk' hd (Nat.one_lt_pow (by omega) (by decide)) (by simpa using h.out)
theorem gcd_ne {a b:Int} (h:b≠0):(Int.gcd a b:Int)≠0:=by
  intro e;have e':Int.gcd a b=0:=by omega
  exact h (Int.gcd_eq_zero_iff.1 e').2
theorem den_ne (q:Rat):(q.den:Int)≠0:=by have:=q.den_nz;omega

def pd0 (v:V3):Int:=(Int.gcd 1 (v.x.den:Int):Int)
def pd1 (v:V3):Int:=1*((v.x.den:Int) / pd0 v)
def pd2 (v:V3):Int:=pd1 v*((v.y.den:Int) / (Int.gcd (pd1 v) (v.y.den:Int):Int))
def pden (v:V3):Int:=pd2 v*((v.z.den:Int) / (Int.gcd (pd2 v) (v.z.den:Int):Int))
def pn1 (v:V3):Int:=(Int.gcd 0 v.x.num:Int)
def pn2 (v:V3):Int:=(Int.gcd (pn1 v) v.y.num:Int)
def pnum (v:V3):Nat:=Int.gcd (pn2 v) v.z.num
def vwhole (v:V3):V3:=⟨v.x*(pden v:Rat),v.y*(pden v:Rat),v.z*(pden v:Rat)⟩
def vprim (v:V3):V3:=⟨(vwhole v).x*mkRat 1 (pnum (vwhole v)),(vwhole v).y*mkRat 1 (pnum (vwhole v)),(vwhole v).z*mkRat 1 (pnum (vwhole v))⟩

theorem pg0 (v:V3) {m:Nat} (w:World) (g:Gd w) (hb:IB m (v.x.den:Int)) (hm:m≤9000):Calls Tryz.prog 73 #[.string ⟨#[49]⟩,.string (zs (v.x.den:Int))] w (Ret w (.string (zs (pd0 v)))):=gcd_1 _ w g hb hm
theorem pd0_ne (v:V3):pd0 v≠0:=gcd_ne (den_ne _)
theorem IB.pd0 {k:Nat} {v:V3} (h:VB k v):IB (max 1 k) (pd0 v):=IB.one.gcd (QB.iden h.x)
theorem pm1 (v:V3) {m:Nat} (w:World) (g:Gd w) (hb:IB m ((v.x.den:Int) / pd0 v)) (hm:m≤9000):Calls Tryz.prog 75 #[.string ⟨#[49]⟩,.string (zs ((v.x.den:Int) / pd0 v))] w (Ret w (.string (zs (pd1 v)))):=imul_1 _ w g hb hm
theorem pm2 (v:V3) {k m:Nat} (w:World) (g:Gd w) (ha:IB k (pd1 v)) (hb:IB m ((v.y.den:Int) / (Int.gcd (pd1 v) (v.y.den:Int):Int))) (hk:k≤9000) (hm:m≤9000):Calls Tryz.prog 75 #[.string (zs (pd1 v)),.string (zs ((v.y.den:Int) / (Int.gcd (pd1 v) (v.y.den:Int):Int)))] w (Ret w (.string (zs (pd2 v)))):=mul_c _ _ w g ha hb hk hm
theorem pm3 (v:V3) {k m:Nat} (w:World) (g:Gd w) (ha:IB k (pd2 v)) (hb:IB m ((v.z.den:Int) / (Int.gcd (pd2 v) (v.z.den:Int):Int))) (hk:k≤9000) (hm:m≤9000):Calls Tryz.prog 75 #[.string (zs (pd2 v)),.string (zs ((v.z.den:Int) / (Int.gcd (pd2 v) (v.z.den:Int):Int)))] w (Ret w (.string (zs (pden v)))):=mul_c _ _ w g ha hb hk hm
theorem pg1 (v:V3) {m:Nat} (w:World) (g:Gd w) (hb:IB m v.x.num) (hm:m≤9000):Calls Tryz.prog 73 #[.string ⟨#[48]⟩,.string (zs v.x.num)] w (Ret w (.string (zs (pn1 v)))):=gcd_0 _ w g hb hm
theorem pg2 (v:V3) {k m:Nat} (w:World) (g:Gd w) (ha:IB k (pn1 v)) (hb:IB m v.y.num) (hk:k≤9000) (hm:m≤9000):Calls Tryz.prog 73 #[.string (zs (pn1 v)),.string (zs v.y.num)] w (Ret w (.string (zs (pn2 v)))):=gcd_c _ _ w g ha hb hk hm
theorem pg3 (v:V3) {k m:Nat} (w:World) (g:Gd w) (ha:IB k (pn2 v)) (hb:IB m v.z.num) (hk:k≤9000) (hm:m≤9000):Calls Tryz.prog 73 #[.string (zs (pn2 v)),.string (zs v.z.num)] w (Ret w (.string (zs (pnum v:Int)))):=gcd_c _ _ w g ha hb hk hm
theorem IB.pd1 {k:Nat} {v:V3} (h:VB k v):IB (1+k) (pd1 v):=IB.one.mul ((QB.iden h.x).div _)
theorem IB.pd2 {k:Nat} {v:V3} (h:VB k v):IB (1+k+k) (pd2 v):=(IB.pd1 h).mul ((QB.iden h.y).div _)
theorem IB.pden {k:Nat} {v:V3} (h:VB k v):IB (1+k+k+k) (pden v):=(IB.pd2 h).mul ((QB.iden h.z).div _)
theorem IB.pn1 {k:Nat} {v:V3} (h:VB k v):IB (max 1 k) (pn1 v):=IB.zero.gcd (QB.inum h.x)
theorem IB.pn2 {k:Nat} {v:V3} (h:VB k v):IB (max (max 1 k) k) (pn2 v):=(IB.pn1 h).gcd (QB.inum h.y)
theorem IB.pnum {k:Nat} {v:V3} (h:VB k v):IB (max (max (max 1 k) k) k) (pnum v:Int):=(IB.pn2 h).gcd (QB.inum h.z)
theorem vscaleW (a:V3) {k:Nat} (w:World) (g:Gd w) (ha:VB k a) (hk:k≤900):Calls Tryz.prog 76 #[vv a,.string (zs (pden a))] w (Ret w (vv (vwhole a))) :=
  vscale0_z a (pden a) w g ha (IB.pden ha) (by omega) (by omega) (by omega)
theorem vscaleP (a:V3) {k m:Nat} (w:World) (g:Gd w) (ha:VB k (vwhole a)) (hq:QB m (mkRat 1 (pnum (vwhole a)))) (hk:k≤3000) (hm:m≤3000):Calls Tryz.prog 76 #[vv (vwhole a),.string (qs (mkRat 1 (pnum (vwhole a))))] w (Ret w (vv (vprim a))) :=
  vscale0_c (vwhole a) (mkRat 1 (pnum (vwhole a))) w g ha hq hk hm

set_option maxHeartbeats 16000000 in
theorem vPrim_ok (a:V3) (w:World) (g:Gd w) (ha:VB 24 a) (hz:¬ (a.x=0∧a.y=0∧a.z=0)) (hw:VB 97 (vwhole a)) (hg0:pnum (vwhole a)≠0) (hr:VB 200 (vprim a)):Calls Tryz.prog 36 #[.agg #[.string (qs a.x),.string (qs a.y),.string (qs a.z)]] w (Ret w (.tuple #[.agg #[.string (qs ((vprim a).x)),.string (qs ((vprim a).y)),.string (qs ((vprim a).z))],.int .i64 0])):=by
  have HA:=Lib.hid ha
  have HZ:=Lib.hid hz
  have HW:=Lib.hid hw
  have HG0:=Lib.hid hg0
  have HR:=Lib.hid hr
  have HG:=Lib.hid g
  clear ha hz hw hg0 hr g
  have HQG:Hid (QB 97 (mkRat 1 (pnum (vwhole a)))):=Lib.hid (QB.mk1 HG0.out ((IB.pnum HW.out).mono (by decide)) (by decide))
  have ix0:∀ W,(Instr.index 108 (.agg #[.string (qs a.x),.string (qs a.y),.string (qs a.z)]) (.int .i64 0)).run Tryz.prog W = .ok (.string (qs a.x)) W:=fun W=>by kernel_rfl
  have ix1:∀ W,(Instr.index 108 (.agg #[.string (qs a.x),.string (qs a.y),.string (qs a.z)]) (.int .i64 1)).run Tryz.prog W = .ok (.string (qs a.y)) W:=fun W=>by kernel_rfl
  have ix2:∀ W,(Instr.index 108 (.agg #[.string (qs a.x),.string (qs a.y),.string (qs a.z)]) (.int .i64 2)).run Tryz.prog W = .ok (.string (qs a.z)) W:=fun W=>by kernel_rfl
  have ix3:∀ W,(Instr.index 108 (.agg #[.string (qs ((vwhole a).x)),.string (qs ((vwhole a).y)),.string (qs ((vwhole a).z))]) (.int .i64 0)).run Tryz.prog W = .ok (.string (qs ((vwhole a).x))) W:=fun W=>by kernel_rfl
  have ix4:∀ W,(Instr.index 108 (.agg #[.string (qs ((vwhole a).x)),.string (qs ((vwhole a).y)),.string (qs ((vwhole a).z))]) (.int .i64 1)).run Tryz.prog W = .ok (.string (qs ((vwhole a).y))) W:=fun W=>by kernel_rfl
  have ix5:∀ W,(Instr.index 108 (.agg #[.string (qs ((vwhole a).x)),.string (qs ((vwhole a).y)),.string (qs ((vwhole a).z))]) (.int .i64 2)).run Tryz.prog W = .ok (.string (qs ((vwhole a).z))) W:=fun W=>by kernel_rfl
  go_enter Tryz.func36,Tryz.ntmps36
  go_wp2_with fail
  refine (vectors1_ok a (w.heap.size+1+1) _ (HG.out.ext ((((Ext.refl w).alloc _).alloc _).alloc _)) (HA.out.mono (by omega)) (Blk.new' (w:=_) (cs:=#[.string (qs a.x),.string (qs a.y),.string (qs a.z)]) (t:=31) (by first|rfl|(simp only [World.size_alloc];done)|(simp only [World.size_alloc];omega)|simp))).mono ?_;rintro e w1 ⟨rfl,e1⟩
  have HX1:Hid (Ext w w1):=Lib.hid (((((Ext.refl w).alloc _).alloc _).alloc _).trans e1)
  have HB0_1:Hid (Blk w1 (w.heap.size) #[.string (qs a.x),.string (qs a.y),.string (qs a.z)] 31):=Lib.hid (Blk.ext (((Blk.new' (w:=_) (cs:=#[.string (qs a.x),.string (qs a.y),.string (qs a.z)]) (t:=31) (by first|rfl|(simp only [World.size_alloc];done)|(simp only [World.size_alloc];omega)|simp)).alloc _).alloc _) e1)
  have HB1_1:Hid (Blk w1 (w.heap.size+1) #[.string ⟨#[]⟩,.string ⟨#[]⟩,.string ⟨#[]⟩] 31):=Lib.hid (Blk.ext ((Blk.new' (w:=_) (cs:=#[.string ⟨#[]⟩,.string ⟨#[]⟩,.string ⟨#[]⟩]) (t:=31) (by first|rfl|(simp only [World.size_alloc];done)|(simp only [World.size_alloc];omega)|simp)).alloc _) e1)
  have HB2_1:Hid (Blk w1 (w.heap.size+1+1) #[.string (qs a.x),.string (qs a.y),.string (qs a.z)] 31):=Lib.hid (Blk.ext (Blk.new' (w:=_) (cs:=#[.string (qs a.x),.string (qs a.y),.string (qs a.z)]) (t:=31) (by first|rfl|(simp only [World.size_alloc];done)|(simp only [World.size_alloc];omega)|simp)) e1)
  have HGEB0:Hid (w.heap.size≤w.heap.size):=Lib.hid (by first|omega|(simp only [];omega)|(simp;omega))
  have HGEB1:Hid (w.heap.size≤w.heap.size+1):=Lib.hid (by first|omega|(simp only [];omega)|(simp;omega))
  have HGEB2:Hid (w.heap.size≤w.heap.size+1+1):=Lib.hid (by first|omega|(simp only [];omega)|(simp;omega))
  clear e1
  have c0_0:=HB0_1.out.cell 0 rfl
  have c0_1:=HB0_1.out.cell 1 rfl
  have c0_2:=HB0_1.out.cell 2 rfl
  go_wp2_with fail
  refine (vzero_f a _ HZ.out).mono ?_;rintro e w2 ⟨rfl,e2⟩
  have HX2:Hid (Ext w w2):=Lib.hid (HX1.out.trans e2)
  have HB0_2:=Lib.hid (Blk.ext HB0_1.out e2)
  have HB1_2:=Lib.hid (Blk.ext HB1_1.out e2)
  clear e2 c0_0 c0_1 c0_2
  have c0_0:=HB0_2.out.cell 0 rfl
  have c0_1:=HB0_2.out.cell 1 rfl
  have c0_2:=HB0_2.out.cell 2 rfl
  go_wp2_with fail
  refine (list_c ⟨qs a.x,qs a.y,qs a.z⟩ _).mono ?_;rintro e w3 ⟨rfl,e3⟩
  have HX3:Hid (Ext w w3):=Lib.hid (HX2.out.trans e3)
  have HB0_3:=Lib.hid (Blk.ext HB0_2.out e3)
  have HB1_3:=Lib.hid (Blk.ext HB1_2.out e3)
  clear e3 c0_0 c0_1 c0_2
  go_wp2_with fail
  refine wp_loop_rounds 4 ?_
  rw [rounds_succ]
  go_wp2_with fail
  refine (parts_c a.x _ HA.out.x (by omega)).mono ?_;rintro e w4 ⟨rfl,e4⟩
  have HX4:Hid (Ext w w4):=Lib.hid (HX3.out.trans e4)
  have HB0_4:=Lib.hid (Blk.ext HB0_3.out e4)
  have HB1_4:=Lib.hid (Blk.ext HB1_3.out e4)
  clear e4
  go_wp2_with fail
  refine (pg0 a _ (HG.out.ext HX4.out) (QB.iden HA.out.x) (by omega)).mono ?_;rintro e w5 ⟨rfl,e5⟩
  have HX5:Hid (Ext w w5):=Lib.hid (HX4.out.trans e5)
  have HB0_5:=Lib.hid (Blk.ext HB0_4.out e5)
  have HB1_5:=Lib.hid (Blk.ext HB1_4.out e5)
  clear e5
  go_wp2_with fail
  refine (divmod_c (a.x.den:Int) (pd0 a) _ (HG.out.ext HX5.out) (QB.iden HA.out.x) (IB.pd0 HA.out) (by omega) (by omega) (pd0_ne a)).mono ?_;rintro e w6 ⟨rfl,e6⟩
  have HX6:Hid (Ext w w6):=Lib.hid (HX5.out.trans e6)
  have HB0_6:=Lib.hid (Blk.ext HB0_5.out e6)
  have HB1_6:=Lib.hid (Blk.ext HB1_5.out e6)
  clear e6
  go_wp2_with fail
  refine (pm1 a _ (HG.out.ext HX6.out) (IB.div (QB.iden HA.out.x) (pd0 a)) (by omega)).mono ?_;rintro e w7 ⟨rfl,e7⟩
  have HX7:Hid (Ext w w7):=Lib.hid (HX6.out.trans e7)
  have HB0_7:=Lib.hid (Blk.ext HB0_6.out e7)
  have HB1_7:=Lib.hid (Blk.ext HB1_6.out e7)
  clear e7
  go_wp2_with fail
  rw [rounds_succ]
  go_wp2_with fail
  refine (parts_c a.y _ HA.out.y (by omega)).mono ?_;rintro e w8 ⟨rfl,e8⟩
  have HX8:Hid (Ext w w8):=Lib.hid (HX7.out.trans e8)
  have HB0_8:=Lib.hid (Blk.ext HB0_7.out e8)
  have HB1_8:=Lib.hid (Blk.ext HB1_7.out e8)
  clear e8
  go_wp2_with fail
  refine (gcd_c (pd1 a) (a.y.den:Int) _ (HG.out.ext HX8.out) (IB.pd1 HA.out) (QB.iden HA.out.y) (by omega) (by omega)).mono ?_;rintro e w9 ⟨rfl,e9⟩
  have HX9:Hid (Ext w w9):=Lib.hid (HX8.out.trans e9)
  have HB0_9:=Lib.hid (Blk.ext HB0_8.out e9)
  have HB1_9:=Lib.hid (Blk.ext HB1_8.out e9)
  clear e9
  go_wp2_with fail
  refine (divmod_c (a.y.den:Int) (Int.gcd (pd1 a) (a.y.den:Int):Int) _ (HG.out.ext HX9.out) (QB.iden HA.out.y) (IB.gcd (IB.pd1 HA.out) (QB.iden HA.out.y)) (by omega) (by omega) (gcd_ne (den_ne _))).mono ?_;rintro e w10 ⟨rfl,e10⟩
  have HX10:Hid (Ext w w10):=Lib.hid (HX9.out.trans e10)
  have HB0_10:=Lib.hid (Blk.ext HB0_9.out e10)
  have HB1_10:=Lib.hid (Blk.ext HB1_9.out e10)
  clear e10
  go_wp2_with fail
  refine (pm2 a _ (HG.out.ext HX10.out) (IB.pd1 HA.out) (IB.div (QB.iden HA.out.y) (Int.gcd (pd1 a) (a.y.den:Int):Int)) (by omega) (by omega)).mono ?_;rintro e w11 ⟨rfl,e11⟩
  have HX11:Hid (Ext w w11):=Lib.hid (HX10.out.trans e11)
  have HB0_11:=Lib.hid (Blk.ext HB0_10.out e11)
  have HB1_11:=Lib.hid (Blk.ext HB1_10.out e11)
  clear e11
  go_wp2_with fail
  rw [rounds_succ]
  go_wp2_with fail
  refine (parts_c a.z _ HA.out.z (by omega)).mono ?_;rintro e w12 ⟨rfl,e12⟩
  have HX12:Hid (Ext w w12):=Lib.hid (HX11.out.trans e12)
  have HB0_12:=Lib.hid (Blk.ext HB0_11.out e12)
  have HB1_12:=Lib.hid (Blk.ext HB1_11.out e12)
  clear e12
  go_wp2_with fail
  refine (gcd_c (pd2 a) (a.z.den:Int) _ (HG.out.ext HX12.out) (IB.pd2 HA.out) (QB.iden HA.out.z) (by omega) (by omega)).mono ?_;rintro e w13 ⟨rfl,e13⟩
  have HX13:Hid (Ext w w13):=Lib.hid (HX12.out.trans e13)
  have HB0_13:=Lib.hid (Blk.ext HB0_12.out e13)
  have HB1_13:=Lib.hid (Blk.ext HB1_12.out e13)
  clear e13
  go_wp2_with fail
  refine (divmod_c (a.z.den:Int) (Int.gcd (pd2 a) (a.z.den:Int):Int) _ (HG.out.ext HX13.out) (QB.iden HA.out.z) (IB.gcd (IB.pd2 HA.out) (QB.iden HA.out.z)) (by omega) (by omega) (gcd_ne (den_ne _))).mono ?_;rintro e w14 ⟨rfl,e14⟩
  have HX14:Hid (Ext w w14):=Lib.hid (HX13.out.trans e14)
  have HB0_14:=Lib.hid (Blk.ext HB0_13.out e14)
  have HB1_14:=Lib.hid (Blk.ext HB1_13.out e14)
  clear e14
  go_wp2_with fail
  refine (pm3 a _ (HG.out.ext HX14.out) (IB.pd2 HA.out) (IB.div (QB.iden HA.out.z) (Int.gcd (pd2 a) (a.z.den:Int):Int)) (by omega) (by omega)).mono ?_;rintro e w15 ⟨rfl,e15⟩
  have HX15:Hid (Ext w w15):=Lib.hid (HX14.out.trans e15)
  have HB0_15:=Lib.hid (Blk.ext HB0_14.out e15)
  have HB1_15:=Lib.hid (Blk.ext HB1_14.out e15)
  clear e15
  go_wp2_with fail
  rw [rounds_succ]
  have c0_0:=HB0_15.out.cell 0 rfl
  have c0_1:=HB0_15.out.cell 1 rfl
  have c0_2:=HB0_15.out.cell 2 rfl
  go_wp2_with fail
  refine (vscaleW a _ (HG.out.ext HX15.out) HA.out (by omega)).mono ?_;rintro e w16 ⟨rfl,e16⟩
  have HX16:Hid (Ext w w16):=Lib.hid (HX15.out.trans e16)
  have HB1_16:=Lib.hid (Blk.ext HB1_15.out e16)
  clear e16 c0_0 c0_1 c0_2
  go_wp2_with fail
  refine wp_loop_rounds 4 ?_
  rw [rounds_succ]
  go_wp2_with fail
  refine (parts_c ((vwhole a).x) _ HW.out.x (by omega)).mono ?_;rintro e w17 ⟨rfl,e17⟩
  have HX17:Hid (Ext w w17):=Lib.hid ((HX16.out.alloc _).trans e17)
  have HB1_17:Hid (Blk w17 (w.heap.size+1) #[.string ⟨#[]⟩,.string ⟨#[]⟩,.string ⟨#[]⟩] 31):=Lib.hid (Blk.ext (HB1_16.out.alloc _) e17)
  have HB3_17:Hid (Blk w17 (w16.heap.size) #[.string (qs ((vwhole a).x)),.string (qs ((vwhole a).y)),.string (qs ((vwhole a).z))] 108):=Lib.hid (Blk.ext (Blk.new' (w:=_) (cs:=#[.string (qs ((vwhole a).x)),.string (qs ((vwhole a).y)),.string (qs ((vwhole a).z))]) (t:=108) (by first|rfl|(simp only [World.size_alloc];done)|(simp only [World.size_alloc];omega)|simp)) e17)
  have HGEB3:Hid (w.heap.size≤w16.heap.size):=Lib.hid (by have:=HX16.out.size;first|omega|(simp only [];omega)|(simp;omega))
  clear e17
  go_wp2_with fail
  refine (pg1 (vwhole a) _ (HG.out.ext HX17.out) (QB.inum HW.out.x) (by omega)).mono ?_;rintro e w18 ⟨rfl,e18⟩
  have HX18:Hid (Ext w w18):=Lib.hid (HX17.out.trans e18)
  have HB1_18:=Lib.hid (Blk.ext HB1_17.out e18)
  have HB3_18:Hid (Blk w18 (w16.heap.size) #[.string (qs ((vwhole a).x)),.string (qs ((vwhole a).y)),.string (qs ((vwhole a).z))] 108):=Lib.hid (Blk.ext HB3_17.out e18)
  clear e18
  go_wp2_with fail
  rw [rounds_succ]
  go_wp2_with fail
  refine (parts_c ((vwhole a).y) _ HW.out.y (by omega)).mono ?_;rintro e w19 ⟨rfl,e19⟩
  have HX19:Hid (Ext w w19):=Lib.hid (HX18.out.trans e19)
  have HB1_19:=Lib.hid (Blk.ext HB1_18.out e19)
  have HB3_19:Hid (Blk w19 (w16.heap.size) #[.string (qs ((vwhole a).x)),.string (qs ((vwhole a).y)),.string (qs ((vwhole a).z))] 108):=Lib.hid (Blk.ext HB3_18.out e19)
  clear e19
  go_wp2_with fail
  refine (pg2 (vwhole a) _ (HG.out.ext HX19.out) (IB.pn1 HW.out) (QB.inum HW.out.y) (by omega) (by omega)).mono ?_;rintro e w20 ⟨rfl,e20⟩
  have HX20:Hid (Ext w w20):=Lib.hid (HX19.out.trans e20)
  have HB1_20:=Lib.hid (Blk.ext HB1_19.out e20)
  have HB3_20:Hid (Blk w20 (w16.heap.size) #[.string (qs ((vwhole a).x)),.string (qs ((vwhole a).y)),.string (qs ((vwhole a).z))] 108):=Lib.hid (Blk.ext HB3_19.out e20)
  clear e20
  go_wp2_with fail
  rw [rounds_succ]
  go_wp2_with fail
  refine (parts_c ((vwhole a).z) _ HW.out.z (by omega)).mono ?_;rintro e w21 ⟨rfl,e21⟩
  have HX21:Hid (Ext w w21):=Lib.hid (HX20.out.trans e21)
  have HB1_21:=Lib.hid (Blk.ext HB1_20.out e21)
  have HB3_21:Hid (Blk w21 (w16.heap.size) #[.string (qs ((vwhole a).x)),.string (qs ((vwhole a).y)),.string (qs ((vwhole a).z))] 108):=Lib.hid (Blk.ext HB3_20.out e21)
  clear e21
  go_wp2_with fail
  refine (pg3 (vwhole a) _ (HG.out.ext HX21.out) (IB.pn2 HW.out) (QB.inum HW.out.z) (by omega) (by omega)).mono ?_;rintro e w22 ⟨rfl,e22⟩
  have HX22:Hid (Ext w w22):=Lib.hid (HX21.out.trans e22)
  have HB1_22:=Lib.hid (Blk.ext HB1_21.out e22)
  have HB3_22:Hid (Blk w22 (w16.heap.size) #[.string (qs ((vwhole a).x)),.string (qs ((vwhole a).y)),.string (qs ((vwhole a).z))] 108):=Lib.hid (Blk.ext HB3_21.out e22)
  clear e22
  go_wp2_with fail
  rw [rounds_succ]
  go_wp2_with fail
  refine (new_1 (pnum (vwhole a)) HG0.out _ (HG.out.ext HX22.out) (IB.pnum HW.out) (by omega)).mono ?_;rintro e w23 ⟨rfl,e23⟩
  have HX23:Hid (Ext w w23):=Lib.hid (HX22.out.trans e23)
  have HB1_23:=Lib.hid (Blk.ext HB1_22.out e23)
  have HB3_23:Hid (Blk w23 (w16.heap.size) #[.string (qs ((vwhole a).x)),.string (qs ((vwhole a).y)),.string (qs ((vwhole a).z))] 108):=Lib.hid (Blk.ext HB3_22.out e23)
  clear e23
  have c3_0:=HB3_23.out.cell 0 rfl
  have c3_1:=HB3_23.out.cell 1 rfl
  have c3_2:=HB3_23.out.cell 2 rfl
  go_wp2_with fail
  refine (vector_c ⟨qs ((vwhole a).x),qs ((vwhole a).y),qs ((vwhole a).z)⟩ _).mono ?_;rintro e w24 ⟨rfl,e24⟩
  have HX24:Hid (Ext w w24):=Lib.hid (HX23.out.trans e24)
  have HB1_24:=Lib.hid (Blk.ext HB1_23.out e24)
  clear e24 c3_0 c3_1 c3_2
  go_wp2_with fail
  refine (vscaleP a _ (HG.out.ext HX24.out) HW.out HQG.out (by omega) (by omega)).mono ?_;rintro e w25 ⟨rfl,e25⟩
  have HX25:Hid (Ext w w25):=Lib.hid (HX24.out.trans e25)
  have HB1_25:=Lib.hid (Blk.ext HB1_24.out e25)
  clear e25
  go_wp2_with fail
  refine (result_3 (vprim a).x (vprim a).y (vprim a).z _ HR.out.x HR.out.y HR.out.z).mono ?_;rintro e w26 ⟨rfl,e26⟩
  have HX26:Hid (Ext w w26):=Lib.hid (HX25.out.trans e26)
  have HB1_26:=Lib.hid (Blk.ext HB1_25.out e26)
  clear e26
  have c1_0:=HB1_26.out.cell 0 rfl
  have f1_0:=HB1_26.out.free 0
  have c1_1:=HB1_26.out.cell 1 rfl
  have f1_1:=HB1_26.out.free 1
  have c1_2:=HB1_26.out.cell 2 rfl
  have f1_2:=HB1_26.out.free 2
  go_wp2_with fail
  refine wp_name (fun W=>Ext w W∧Blk W (w.heap.size+1) #[.string (qs ((vprim a).x)),.string (qs ((vprim a).y)),.string (qs ((vprim a).z))] 31) ⟨(((HX26.out.setCell (by have:=HGEB1.out;first|omega|(simp only [];omega)|(simp;omega)) _).setCell (by have:=HGEB1.out;first|omega|(simp only [];omega)|(simp;omega)) _).setCell (by have:=HGEB1.out;first|omega|(simp only [];omega)|(simp;omega)) _),(((HB1_26.out.set 0 (.string (qs ((vprim a).x)))).set 1 (.string (qs ((vprim a).y)))).set 2 (.string (qs ((vprim a).z))))⟩ ?_
  rintro w27 ⟨e27,bB1_27⟩
  have HX27:=Lib.hid e27;have HB1_27:=Lib.hid bB1_27
  clear e27 bB1_27 c1_0 f1_0 c1_1 f1_1 c1_2 f1_2
  have gB1_0:=HB1_27.out.cell 0 rfl
  have gB1_1:=HB1_27.out.cell 1 rfl
  have gB1_2:=HB1_27.out.cell 2 rfl
  refine bodyPost_ret (v:=.tuple #[.agg #[.string (qs ((vprim a).x)),.string (qs ((vprim a).y)),.string (qs ((vprim a).z))],.int .i64 0]) (by simp [results,Tryz.results36,go_sem,gB1_0,gB1_1,gB1_2]) rfl ⟨rfl,HX27.out⟩

set_option maxHeartbeats 2000000 in
theorem vPrim_zero (a:V3) (w:World) (g:Gd w) (ha:VB 200 a) (hz:a.x=0∧a.y=0∧a.z=0):Calls Tryz.prog 36 #[.agg #[.string (qs a.x),.string (qs a.y),.string (qs a.z)]] w (Ret w (.tuple #[.agg #[.string ⟨#[]⟩,.string ⟨#[]⟩,.string ⟨#[]⟩],.int .i64 17])):=by
  have HA:=Lib.hid ha
  have HZ:=Lib.hid hz
  have HG:=Lib.hid g
  clear ha hz g
  go_enter Tryz.func36,Tryz.ntmps36
  go_wp2_with fail
  refine (vectors1_ok a (w.heap.size+1+1) _ (HG.out.ext ((((Ext.refl w).alloc _).alloc _).alloc _)) (HA.out.mono (by omega)) (Blk.new' (w:=_) (cs:=#[.string (qs a.x),.string (qs a.y),.string (qs a.z)]) (t:=31) (by first|rfl|(simp only [World.size_alloc];done)|(simp only [World.size_alloc];omega)|simp))).mono ?_;rintro e w1 ⟨rfl,e1⟩
  have HX1:Hid (Ext w w1):=Lib.hid (((((Ext.refl w).alloc _).alloc _).alloc _).trans e1)
  have HB0_1:Hid (Blk w1 (w.heap.size) #[.string (qs a.x),.string (qs a.y),.string (qs a.z)] 31):=Lib.hid (Blk.ext (((Blk.new' (w:=_) (cs:=#[.string (qs a.x),.string (qs a.y),.string (qs a.z)]) (t:=31) (by first|rfl|(simp only [World.size_alloc];done)|(simp only [World.size_alloc];omega)|simp)).alloc _).alloc _) e1)
  have HB1_1:Hid (Blk w1 (w.heap.size+1) #[.string ⟨#[]⟩,.string ⟨#[]⟩,.string ⟨#[]⟩] 31):=Lib.hid (Blk.ext ((Blk.new' (w:=_) (cs:=#[.string ⟨#[]⟩,.string ⟨#[]⟩,.string ⟨#[]⟩]) (t:=31) (by first|rfl|(simp only [World.size_alloc];done)|(simp only [World.size_alloc];omega)|simp)).alloc _) e1)
  have HB2_1:Hid (Blk w1 (w.heap.size+1+1) #[.string (qs a.x),.string (qs a.y),.string (qs a.z)] 31):=Lib.hid (Blk.ext (Blk.new' (w:=_) (cs:=#[.string (qs a.x),.string (qs a.y),.string (qs a.z)]) (t:=31) (by first|rfl|(simp only [World.size_alloc];done)|(simp only [World.size_alloc];omega)|simp)) e1)
  have HGEB0:Hid (w.heap.size≤w.heap.size):=Lib.hid (by first|omega|(simp only [];omega)|(simp;omega))
  have HGEB1:Hid (w.heap.size≤w.heap.size+1):=Lib.hid (by first|omega|(simp only [];omega)|(simp;omega))
  have HGEB2:Hid (w.heap.size≤w.heap.size+1+1):=Lib.hid (by first|omega|(simp only [];omega)|(simp;omega))
  clear e1
  have c0_0:=HB0_1.out.cell 0 rfl
  have c0_1:=HB0_1.out.cell 1 rfl
  have c0_2:=HB0_1.out.cell 2 rfl
  go_wp2_with fail
  refine (vzero_t a _ HZ.out).mono ?_;rintro e w2 ⟨rfl,e2⟩
  have HX2:Hid (Ext w w2):=Lib.hid (HX1.out.trans e2)
  have HB1_2:=Lib.hid (Blk.ext HB1_1.out e2)
  clear e2 c0_0 c0_1 c0_2
  have c1_0:=HB1_2.out.cell 0 rfl
  have f1_0:=HB1_2.out.free 0
  have c1_1:=HB1_2.out.cell 1 rfl
  have f1_1:=HB1_2.out.free 1
  have c1_2:=HB1_2.out.cell 2 rfl
  have f1_2:=HB1_2.out.free 2
  go_wp2_with fail
  refine wp_name (fun W=>Ext w W∧Blk W (w.heap.size+1) #[.string ⟨#[]⟩,.string ⟨#[]⟩,.string ⟨#[]⟩] 31) ⟨(((HX2.out.setCell (by have:=HGEB1.out;first|omega|(simp only [];omega)|(simp;omega)) _).setCell (by have:=HGEB1.out;first|omega|(simp only [];omega)|(simp;omega)) _).setCell (by have:=HGEB1.out;first|omega|(simp only [];omega)|(simp;omega)) _),(((HB1_2.out.set 0 (.string ⟨#[]⟩)).set 1 (.string ⟨#[]⟩)).set 2 (.string ⟨#[]⟩))⟩ ?_
  rintro w3 ⟨e3,bB1_3⟩
  have HX3:=Lib.hid e3;have HB1_3:=Lib.hid bB1_3
  clear e3 bB1_3 c1_0 f1_0 c1_1 f1_1 c1_2 f1_2
  have gB1_0:=HB1_3.out.cell 0 rfl
  have gB1_1:=HB1_3.out.cell 1 rfl
  have gB1_2:=HB1_3.out.cell 2 rfl
  refine bodyPost_ret (v:=.tuple #[.agg #[.string ⟨#[]⟩,.string ⟨#[]⟩,.string ⟨#[]⟩],.int .i64 17]) (by simp [results,Tryz.results36,go_sem,gB1_0,gB1_1,gB1_2]) rfl ⟨rfl,HX3.out⟩
end Go.Proofs.YtjeimihnoiephaaGreatDoor
