/- Part 30 of the proof: M4, M15. -/
import Derived.Test.YtjeimihnoiephaaGreatDoorQZ29
set_option maxRecDepth 100000
namespace Go.Proofs.YtjeimihnoiephaaGreatDoor
open Go Go.RowKit
set_option linter.unusedVariables false
theorem norm4_le {t:Q4} (h:Q4In t):norm4 t≤4000000000000:=by
  unfold norm4
  have a:=mul_bd h.w h.w;have b:=mul_bd h.x h.x;have c:=mul_bd h.y h.y;have d:=mul_bd h.z h.z
  omega
theorem rows_qb {t:Q4} (h:Q4In t) (hz:¬ t.zero):VB 13 (row1 t)∧VB 13 (row2 t)∧VB 13 (row3 t):=by
  have hp:=norm4_pos hz
  have hn:=norm4_le h
  have e:∀ n:Int,-8000000000000≤n→n≤8000000000000→QB 13 (fr n (norm4 t)):=fun n h1 h2=>qb_fr hp (by omega) (by omega)
  have p:∀ {a b:Int},(-1000000≤a∧a≤1000000)→(-1000000≤b∧b≤1000000)→-1000000000000≤a*b∧a*b≤1000000000000:=fun ha hb=>mul_bd ha hb
  have ww:=p h.w h.w;have xx:=p h.x h.x;have yy:=p h.y h.y;have zz:=p h.z h.z
  have xy:=p h.x h.y;have wz:=p h.w h.z;have xz:=p h.x h.z;have wy:=p h.w h.y;have yz:=p h.y h.z;have wx:=p h.w h.x
  exact ⟨⟨e _ (by omega) (by omega),e _ (by omega) (by omega),e _ (by omega) (by omega)⟩,⟨e _ (by omega) (by omega),e _ (by omega) (by omega),e _ (by omega) (by omega)⟩,⟨e _ (by omega) (by omega),e _ (by omega) (by omega),e _ (by omega) (by omega)⟩⟩
theorem dot3_qb {a b:V3} {k m:Nat} (ha:VB k a) (hb:VB m b):QB (3*(k+m)+4) (dot3 a b):=(((ha.x.mul hb.x).add (ha.y.mul hb.y)).add (ha.z.mul hb.z)).mono (by omega)
theorem rot_qb {t:Q4} {v:V3} {k:Nat} (h:Q4In t) (hz:¬ t.zero) (hv:VB k v):VB (3*(13+k)+4) (rot t v):=by
  have hr:=rows_qb h hz
  exact ⟨dot3_qb hr.1 hv,dot3_qb hr.2.1 hv,dot3_qb hr.2.2 hv⟩

set_option maxHeartbeats 2000000 in
theorem rdot_c (a b:V3) {k m:Nat} (w:World) (g:Gd w) (ha:VB k a) (hb:VB m b) (hk:k≤200) (hm:m≤200):Calls Tryz.prog 120 #[.agg #[.string (qs a.x),.string (qs a.y),.string (qs a.z)],.agg #[.string (qs b.x),.string (qs b.y),.string (qs b.z)]] w (Ret w (.string (qs (a.x*b.x+a.y*b.y+a.z*b.z)))):=by
  have HA:=Lib.hid ha
  have HB:=Lib.hid hb
  have HG:=Lib.hid g
  clear ha hb g
  go_enter Tryz.func120,Tryz.ntmps120
  go_wp2_with fail
  refine wp_name (fun W=>Ext w W∧Blk W (w.heap.size) #[.string (qs a.x),.string (qs a.y),.string (qs a.z)] 31∧Blk W (w.heap.size+1) #[.string (qs b.x),.string (qs b.y),.string (qs b.z)] 31) ⟨(((Ext.refl w).alloc _).alloc _),((Blk.new' (w:=_) (cs:=#[.string (qs a.x),.string (qs a.y),.string (qs a.z)]) (t:=31) (by first|rfl|(simp only [World.size_alloc];done)|(simp only [World.size_alloc];omega)|simp)).alloc _),(Blk.new' (w:=_) (cs:=#[.string (qs b.x),.string (qs b.y),.string (qs b.z)]) (t:=31) (by first|rfl|(simp only [World.size_alloc];done)|(simp only [World.size_alloc];omega)|simp))⟩ ?_
  rintro w1 ⟨e1,bB0_1,bB1_1⟩
  have HX1:=Lib.hid e1;have HB0_1:=Lib.hid bB0_1;have HB1_1:=Lib.hid bB1_1
  have HGEB0:Hid (w.heap.size≤w.heap.size):=Lib.hid (by first|omega|(simp only [];omega)|(simp;omega))
  have HGEB1:Hid (w.heap.size≤w.heap.size+1):=Lib.hid (by first|omega|(simp only [];omega)|(simp;omega))
  clear e1 bB0_1 bB1_1
  refine region_lin [.val (.pointer (some ⟨w.heap.size,0,none⟩)),.val (.string (qs a.x)),.val (.pointer (some ⟨w.heap.size+1,0,none⟩)),.val (.string (qs b.x)),.val (.string (qs (a.x*b.x))),.val (.pointer (some ⟨w.heap.size,1,none⟩)),.val (.string (qs a.y)),.val (.pointer (some ⟨w.heap.size+1,1,none⟩)),.val (.string (qs b.y)),.val (.string (qs (a.y*b.y))),.val (.pointer (some ⟨w.heap.size,2,none⟩)),.val (.string (qs a.z)),.val (.pointer (some ⟨w.heap.size+1,2,none⟩)),.val (.string (qs b.z)),.val (.string (qs (a.z*b.z))),.mem (fun b_ => .slice (some ⟨b_,0,none⟩) 3 3) #[.string (qs (a.x*b.x)),.string (qs (a.y*b.y)),.string (qs (a.z*b.z))] 29 Option.none,.val (.string (qs (a.x*b.x+a.y*b.y+a.z*b.z))),.val (.string (qs (a.x*b.x+a.y*b.y+a.z*b.z)))] (by kernel_rfl) (by kernel_rfl) (by kernel_rfl) ?_ (fun g1 w2 hx_ hm_ hne_=>?_)
  · skip
    refine RnL.cons (fun g1 A_ W_ hs_=>?_) ?_
    · have q2_:=(hs_.old 2 (by kernel_rfl):A_.tmps[2]?.getD undef = .pointer (some ⟨w.heap.size,0,none⟩))
      refine Rn.val fun K_ hK_=>?_
      go_simp
      exact hK_.out _ (Ext.refl _)
    refine RnL.cons (fun g1 A_ W_ hs_=>?_) ?_
    · have q5_:=hs_.val 0 rfl rfl rfl
      have cB0_0:=((HB0_1.out.drew.ext hs_.1)).cell 0 rfl
      refine Rn.val fun K_ hK_=>?_
      go_simp
      exact hK_.out _ (Ext.refl _)
    refine RnL.cons (fun g1 A_ W_ hs_=>?_) ?_
    · have q3_:=(hs_.old 3 (by kernel_rfl):A_.tmps[3]?.getD undef = .pointer (some ⟨w.heap.size+1,0,none⟩))
      refine Rn.val fun K_ hK_=>?_
      go_simp
      exact hK_.out _ (Ext.refl _)
    refine RnL.cons (fun g1 A_ W_ hs_=>?_) ?_
    · have q7_:=hs_.val 2 rfl rfl rfl
      have cB1_0:=((HB1_1.out.drew.ext hs_.1)).cell 0 rfl
      refine Rn.val fun K_ hK_=>?_
      go_simp
      exact hK_.out _ (Ext.refl _)
    refine RnL.cons (fun g1 A_ W_ hs_=>?_) ?_
    · have q6_:=hs_.val 1 rfl rfl rfl
      have q8_:=hs_.val 3 rfl rfl rfl
      refine Rn.val fun K_ hK_=>?_
      go_simp
      refine (rmul_c a.x b.x _ (HG.out.ext (HX1.out.drew.trans hs_.1)) HA.out.x HB.out.x (by omega) (by omega)).mono ?_;rintro e W9_ ⟨rfl,e9_⟩;exact hK_.out _ e9_
    refine RnL.cons (fun g1 A_ W_ hs_=>?_) ?_
    · have q2_:=(hs_.old 2 (by kernel_rfl):A_.tmps[2]?.getD undef = .pointer (some ⟨w.heap.size,0,none⟩))
      refine Rn.val fun K_ hK_=>?_
      go_simp
      exact hK_.out _ (Ext.refl _)
    refine RnL.cons (fun g1 A_ W_ hs_=>?_) ?_
    · have q10_:=hs_.val 5 rfl rfl rfl
      have cB0_1:=((HB0_1.out.drew.ext hs_.1)).cell 1 rfl
      refine Rn.val fun K_ hK_=>?_
      go_simp
      exact hK_.out _ (Ext.refl _)
    refine RnL.cons (fun g1 A_ W_ hs_=>?_) ?_
    · have q3_:=(hs_.old 3 (by kernel_rfl):A_.tmps[3]?.getD undef = .pointer (some ⟨w.heap.size+1,0,none⟩))
      refine Rn.val fun K_ hK_=>?_
      go_simp
      exact hK_.out _ (Ext.refl _)
    refine RnL.cons (fun g1 A_ W_ hs_=>?_) ?_
    · have q12_:=hs_.val 7 rfl rfl rfl
      have cB1_1:=((HB1_1.out.drew.ext hs_.1)).cell 1 rfl
      refine Rn.val fun K_ hK_=>?_
      go_simp
      exact hK_.out _ (Ext.refl _)
    refine RnL.cons (fun g1 A_ W_ hs_=>?_) ?_
    · have q11_:=hs_.val 6 rfl rfl rfl
      have q13_:=hs_.val 8 rfl rfl rfl
      refine Rn.val fun K_ hK_=>?_
      go_simp
      refine (rmul_c a.y b.y _ (HG.out.ext (HX1.out.drew.trans hs_.1)) HA.out.y HB.out.y (by omega) (by omega)).mono ?_;rintro e W9_ ⟨rfl,e9_⟩;exact hK_.out _ e9_
    refine RnL.cons (fun g1 A_ W_ hs_=>?_) ?_
    · have q2_:=(hs_.old 2 (by kernel_rfl):A_.tmps[2]?.getD undef = .pointer (some ⟨w.heap.size,0,none⟩))
      refine Rn.val fun K_ hK_=>?_
      go_simp
      exact hK_.out _ (Ext.refl _)
    refine RnL.cons (fun g1 A_ W_ hs_=>?_) ?_
    · have q15_:=hs_.val 10 rfl rfl rfl
      have cB0_2:=((HB0_1.out.drew.ext hs_.1)).cell 2 rfl
      refine Rn.val fun K_ hK_=>?_
      go_simp
      exact hK_.out _ (Ext.refl _)
    refine RnL.cons (fun g1 A_ W_ hs_=>?_) ?_
    · have q3_:=(hs_.old 3 (by kernel_rfl):A_.tmps[3]?.getD undef = .pointer (some ⟨w.heap.size+1,0,none⟩))
      refine Rn.val fun K_ hK_=>?_
      go_simp
      exact hK_.out _ (Ext.refl _)
    refine RnL.cons (fun g1 A_ W_ hs_=>?_) ?_
    · have q17_:=hs_.val 12 rfl rfl rfl
      have cB1_2:=((HB1_1.out.drew.ext hs_.1)).cell 2 rfl
      refine Rn.val fun K_ hK_=>?_
      go_simp
      exact hK_.out _ (Ext.refl _)
    refine RnL.cons (fun g1 A_ W_ hs_=>?_) ?_
    · have q16_:=hs_.val 11 rfl rfl rfl
      have q18_:=hs_.val 13 rfl rfl rfl
      refine Rn.val fun K_ hK_=>?_
      go_simp
      refine (rmul_c a.z b.z _ (HG.out.ext (HX1.out.drew.trans hs_.1)) HA.out.z HB.out.z (by omega) (by omega)).mono ?_;rintro e W9_ ⟨rfl,e9_⟩;exact hK_.out _ e9_
    refine RnL.cons (fun g1 A_ W_ hs_=>?_) ?_
    · have q9_:=hs_.val 4 rfl rfl rfl
      have q14_:=hs_.val 9 rfl rfl rfl
      have q19_:=hs_.val 14 rfl rfl rfl
      refine Rn.mem fun K_ hK_=>?_
      go_simp
      exact hK_.out
    refine RnL.cons (fun g1 A_ W_ hs_=>?_) ?_
    · have q20_:=(hs_.mem 15 rfl rfl rfl).1
      refine Rn.val fun K_ hK_=>?_
      go_simp
      refine (sum3_c (a.x*b.x) (a.y*b.y) (a.z*b.z) (g1 15) _ (HG.out.ext (HX1.out.drew.trans hs_.1)) (HA.out.x.mul HB.out.x) (HA.out.y.mul HB.out.y) (HA.out.z.mul HB.out.z) ((hs_.mem 15 rfl rfl rfl).2.2 rfl) (by omega)).mono ?_;rintro e W9_ ⟨rfl,e9_⟩;exact hK_.out _ e9_
    refine RnL.cons (fun g1 A_ W_ hs_=>?_) ?_
    · have q21_:=hs_.val 16 rfl rfl rfl
      refine Rn.val fun K_ hK_=>?_
      go_simp
      exact hK_.out _ (Ext.refl _)
    exact RnL.nil
  simp only [fs,Kd.value,puts,Act.put,List.setIfInBounds_toArray,List.set_cons_zero,List.set_cons_succ,Nat.reduceAdd]
  have HX2:Hid (Ext w w2):=Lib.hid (HX1.out.drew.trans hx_)
  have HB2_2:Hid (Blk w2 (g1 15) #[.string (qs (a.x*b.x)),.string (qs (a.y*b.y)),.string (qs (a.z*b.z))] 29):=Lib.hid (hm_ 15 _ _ _ _ rfl).2;have HGEB2:Hid (w.heap.size≤g1 15):=Lib.hid (Nat.le_trans HX1.out.size (hm_ 15 _ _ _ _ rfl).1)
  clear hx_ hm_ hne_
  generalize g1 15=i2 at *
  clear g1
  go_wp2
  go_ret
  exact ⟨rfl,HX2.out⟩

set_option maxHeartbeats 4000000 in
theorem rturned_c (t:Q4) (v:V3) {k:Nat} (w:World) (g:Gd w) (hi:Q4In t) (hz:¬ t.zero) (hv:VB k v) (hk:k≤40):Calls Tryz.prog 63 #[.agg #[.int .i64 t.w,.int .i64 t.x,.int .i64 t.y,.int .i64 t.z],.agg #[.string (qs v.x),.string (qs v.y),.string (qs v.z)]] w (Ret w (.agg #[.string (qs ((rot t v).x)),.string (qs ((rot t v).y)),.string (qs ((rot t v).z))])):=by
  have HI:=Lib.hid hi
  have HZ:=Lib.hid hz
  have HV:=Lib.hid hv
  have HG:=Lib.hid g
  clear hi hz hv g
  have HQ1:=Lib.hid (rows_qb HI.out HZ.out).1;have HQ2:=Lib.hid (rows_qb HI.out HZ.out).2.1;have HQ3:=Lib.hid (rows_qb HI.out HZ.out).2.2
  go_enter Tryz.func63,Tryz.ntmps63
  go_wp2_with fail
  refine (rrows_c t _ (HG.out.ext ((((Ext.refl w).alloc _).alloc _).alloc _)) HI.out HZ.out).mono ?_;rintro e w1 ⟨rfl,e1⟩
  have HX1:Hid (Ext w w1):=Lib.hid (((((Ext.refl w).alloc _).alloc _).alloc _).trans e1)
  have HB1_1:Hid (Blk w1 (w.heap.size+1) #[.string (qs v.x),.string (qs v.y),.string (qs v.z)] 31):=Lib.hid (Blk.ext ((Blk.new' (w:=_) (cs:=#[.string (qs v.x),.string (qs v.y),.string (qs v.z)]) (t:=31) (by first|rfl|(simp only [World.size_alloc];done)|(simp only [World.size_alloc];omega)|simp)).alloc _) e1)
  have HB2_1:Hid (Blk w1 (w.heap.size+1+1) #[.string ⟨#[]⟩,.string ⟨#[]⟩,.string ⟨#[]⟩] 31):=Lib.hid (Blk.ext (Blk.new' (w:=_) (cs:=#[.string ⟨#[]⟩,.string ⟨#[]⟩,.string ⟨#[]⟩]) (t:=31) (by first|rfl|(simp only [World.size_alloc];done)|(simp only [World.size_alloc];omega)|simp)) e1)
  have HGEB1:Hid (w.heap.size≤w.heap.size+1):=Lib.hid (by first|omega|(simp only [];omega)|(simp;omega))
  have HGEB2:Hid (w.heap.size≤w.heap.size+1+1):=Lib.hid (by first|omega|(simp only [];omega)|(simp;omega))
  clear e1
  go_wp2_with fail
  refine wp_name (fun W=>Ext w W∧Blk W (w.heap.size+1) #[.string (qs v.x),.string (qs v.y),.string (qs v.z)] 31∧Blk W (w.heap.size+1+1) #[.string ⟨#[]⟩,.string ⟨#[]⟩,.string ⟨#[]⟩] 31∧Blk W (w1.heap.size) #[.string (qs ((row1 t).x)),.string (qs ((row1 t).y)),.string (qs ((row1 t).z)),.string (qs ((row2 t).x)),.string (qs ((row2 t).y)),.string (qs ((row2 t).z)),.string (qs ((row3 t).x)),.string (qs ((row3 t).y)),.string (qs ((row3 t).z))] 59) ⟨(HX1.out.alloc _),(HB1_1.out.alloc _),(HB2_1.out.alloc _),(Blk.new' (w:=_) (cs:=#[.string (qs ((row1 t).x)),.string (qs ((row1 t).y)),.string (qs ((row1 t).z)),.string (qs ((row2 t).x)),.string (qs ((row2 t).y)),.string (qs ((row2 t).z)),.string (qs ((row3 t).x)),.string (qs ((row3 t).y)),.string (qs ((row3 t).z))]) (t:=59) (by first|rfl|(simp only [World.size_alloc];done)|(simp only [World.size_alloc];omega)|simp))⟩ ?_
  rintro w2 ⟨e2,bB1_2,bB2_2,bB3_2⟩
  have HX2:=Lib.hid e2;have HB1_2:=Lib.hid bB1_2;have HB2_2:=Lib.hid bB2_2;have HB3_2:=Lib.hid bB3_2
  have HGEB3:Hid (w.heap.size≤w1.heap.size):=Lib.hid (by have:=HX1.out.size;first|omega|(simp only [];omega)|(simp;omega))
  clear e2 bB1_2 bB2_2 bB3_2
  refine region_lin_s (X:=w) [⟨w.heap.size+1+1,#[.string ⟨#[]⟩,.string ⟨#[]⟩,.string ⟨#[]⟩],#[.string (qs ((rot t v).x)),.string (qs ((rot t v).y)),.string (qs ((rot t v).z))],31⟩] [.val (.pointer (some ⟨w1.heap.size,0,none⟩)),.val (.agg #[.string (qs ((row1 t).x)),.string (qs ((row1 t).y)),.string (qs ((row1 t).z))]),.val (.agg #[.string (qs v.x),.string (qs v.y),.string (qs v.z)]),.val (.string (qs ((rot t v).x))),.val (.pointer (some ⟨w1.heap.size,3,none⟩)),.val (.agg #[.string (qs ((row2 t).x)),.string (qs ((row2 t).y)),.string (qs ((row2 t).z))]),.val (.agg #[.string (qs v.x),.string (qs v.y),.string (qs v.z)]),.val (.string (qs ((rot t v).y))),.val (.pointer (some ⟨w1.heap.size,6,none⟩)),.val (.agg #[.string (qs ((row3 t).x)),.string (qs ((row3 t).y)),.string (qs ((row3 t).z))]),.val (.agg #[.string (qs v.x),.string (qs v.y),.string (qs v.z)]),.val (.string (qs ((rot t v).z))),.val (.agg #[.string (qs ((rot t v).x)),.string (qs ((rot t v).y)),.string (qs ((rot t v).z))]),.st 0] (by kernel_rfl) (by kernel_rfl) (by kernel_rfl) HX2.out.drew (List.forall_mem_cons.2 ⟨⟨HGEB2.out,HB2_2.out.drew⟩,(fun _ h=>by cases h)⟩) dis1 ?_ (fun g2 w3 hx_ hk_ hb_ hm_ hne_=>?_)
  · skip
    refine RnL.cons (fun g2 A_ W_ hs_=>?_) ?_
    · have q5_:=(hs_.old 5 (by kernel_rfl):A_.tmps[5]?.getD undef = .pointer (some ⟨w1.heap.size,0,none⟩))
      refine Rn.val fun K_ hK_=>?_
      go_simp
      exact hK_.out _ (Ext.refl _)
    refine RnL.cons (fun g2 A_ W_ hs_=>?_) ?_
    · have q8_:=hs_.val 0 rfl rfl rfl
      have cB3_0:=((hs_.keep (fm2 (show w.heap.size+1+1≠w1.heap.size from by have:=HB2_1.out.lt;first|omega|(simp only [];omega)|(simp;omega)) fm0) HB3_2.out.drew)).cell 0 rfl
      have cB3_1:=((hs_.keep (fm2 (show w.heap.size+1+1≠w1.heap.size from by have:=HB2_1.out.lt;first|omega|(simp only [];omega)|(simp;omega)) fm0) HB3_2.out.drew)).cell 1 rfl
      have cB3_2:=((hs_.keep (fm2 (show w.heap.size+1+1≠w1.heap.size from by have:=HB2_1.out.lt;first|omega|(simp only [];omega)|(simp;omega)) fm0) HB3_2.out.drew)).cell 2 rfl
      refine Rn.val fun K_ hK_=>?_
      go_simp
      exact hK_.out _ (Ext.refl _)
    refine RnL.cons (fun g2 A_ W_ hs_=>?_) ?_
    · have q3_:=(hs_.old 3 (by kernel_rfl):A_.tmps[3]?.getD undef = .pointer (some ⟨w.heap.size+1,0,none⟩))
      have cB1_0:=((hs_.keep (fm2 (show w.heap.size+1+1≠w.heap.size+1 from by first|omega|(simp only [];omega)|(simp;omega)) fm0) HB1_2.out.drew)).cell 0 rfl
      have cB1_1:=((hs_.keep (fm2 (show w.heap.size+1+1≠w.heap.size+1 from by first|omega|(simp only [];omega)|(simp;omega)) fm0) HB1_2.out.drew)).cell 1 rfl
      have cB1_2:=((hs_.keep (fm2 (show w.heap.size+1+1≠w.heap.size+1 from by first|omega|(simp only [];omega)|(simp;omega)) fm0) HB1_2.out.drew)).cell 2 rfl
      refine Rn.val fun K_ hK_=>?_
      go_simp
      exact hK_.out _ (Ext.refl _)
    refine RnL.cons (fun g2 A_ W_ hs_=>?_) ?_
    · have q9_:=hs_.val 1 rfl rfl rfl
      have q10_:=hs_.val 2 rfl rfl rfl
      refine Rn.val fun K_ hK_=>?_
      go_simp
      refine ((rdot_c (row1 t) v _ (HG.out.ext hs_.1) HQ1.out HV.out (by omega) (by omega):Calls _ _ _ _ (Ret _ (.string (qs (rot t v).x))))).mono ?_;rintro e W9_ ⟨rfl,e9_⟩;exact hK_.out _ e9_
    refine RnL.cons (fun g2 A_ W_ hs_=>?_) ?_
    · have q5_:=(hs_.old 5 (by kernel_rfl):A_.tmps[5]?.getD undef = .pointer (some ⟨w1.heap.size,0,none⟩))
      refine Rn.val fun K_ hK_=>?_
      go_simp
      exact hK_.out _ (Ext.refl _)
    refine RnL.cons (fun g2 A_ W_ hs_=>?_) ?_
    · have q12_:=hs_.val 4 rfl rfl rfl
      have cB3_3:=((hs_.keep (fm2 (show w.heap.size+1+1≠w1.heap.size from by have:=HB2_1.out.lt;first|omega|(simp only [];omega)|(simp;omega)) fm0) HB3_2.out.drew)).cell 3 rfl
      have cB3_4:=((hs_.keep (fm2 (show w.heap.size+1+1≠w1.heap.size from by have:=HB2_1.out.lt;first|omega|(simp only [];omega)|(simp;omega)) fm0) HB3_2.out.drew)).cell 4 rfl
      have cB3_5:=((hs_.keep (fm2 (show w.heap.size+1+1≠w1.heap.size from by have:=HB2_1.out.lt;first|omega|(simp only [];omega)|(simp;omega)) fm0) HB3_2.out.drew)).cell 5 rfl
      refine Rn.val fun K_ hK_=>?_
      go_simp
      exact hK_.out _ (Ext.refl _)
    refine RnL.cons (fun g2 A_ W_ hs_=>?_) ?_
    · have q3_:=(hs_.old 3 (by kernel_rfl):A_.tmps[3]?.getD undef = .pointer (some ⟨w.heap.size+1,0,none⟩))
      have cB1_0:=((hs_.keep (fm2 (show w.heap.size+1+1≠w.heap.size+1 from by first|omega|(simp only [];omega)|(simp;omega)) fm0) HB1_2.out.drew)).cell 0 rfl
      have cB1_1:=((hs_.keep (fm2 (show w.heap.size+1+1≠w.heap.size+1 from by first|omega|(simp only [];omega)|(simp;omega)) fm0) HB1_2.out.drew)).cell 1 rfl
      have cB1_2:=((hs_.keep (fm2 (show w.heap.size+1+1≠w.heap.size+1 from by first|omega|(simp only [];omega)|(simp;omega)) fm0) HB1_2.out.drew)).cell 2 rfl
      refine Rn.val fun K_ hK_=>?_
      go_simp
      exact hK_.out _ (Ext.refl _)
    refine RnL.cons (fun g2 A_ W_ hs_=>?_) ?_
    · have q13_:=hs_.val 5 rfl rfl rfl
      have q14_:=hs_.val 6 rfl rfl rfl
      refine Rn.val fun K_ hK_=>?_
      go_simp
      refine ((rdot_c (row2 t) v _ (HG.out.ext hs_.1) HQ2.out HV.out (by omega) (by omega):Calls _ _ _ _ (Ret _ (.string (qs (rot t v).y))))).mono ?_;rintro e W9_ ⟨rfl,e9_⟩;exact hK_.out _ e9_
    refine RnL.cons (fun g2 A_ W_ hs_=>?_) ?_
    · have q5_:=(hs_.old 5 (by kernel_rfl):A_.tmps[5]?.getD undef = .pointer (some ⟨w1.heap.size,0,none⟩))
      refine Rn.val fun K_ hK_=>?_
      go_simp
      exact hK_.out _ (Ext.refl _)
    refine RnL.cons (fun g2 A_ W_ hs_=>?_) ?_
    · have q16_:=hs_.val 8 rfl rfl rfl
      have cB3_6:=((hs_.keep (fm2 (show w.heap.size+1+1≠w1.heap.size from by have:=HB2_1.out.lt;first|omega|(simp only [];omega)|(simp;omega)) fm0) HB3_2.out.drew)).cell 6 rfl
      have cB3_7:=((hs_.keep (fm2 (show w.heap.size+1+1≠w1.heap.size from by have:=HB2_1.out.lt;first|omega|(simp only [];omega)|(simp;omega)) fm0) HB3_2.out.drew)).cell 7 rfl
      have cB3_8:=((hs_.keep (fm2 (show w.heap.size+1+1≠w1.heap.size from by have:=HB2_1.out.lt;first|omega|(simp only [];omega)|(simp;omega)) fm0) HB3_2.out.drew)).cell 8 rfl
      refine Rn.val fun K_ hK_=>?_
      go_simp
      exact hK_.out _ (Ext.refl _)
    refine RnL.cons (fun g2 A_ W_ hs_=>?_) ?_
    · have q3_:=(hs_.old 3 (by kernel_rfl):A_.tmps[3]?.getD undef = .pointer (some ⟨w.heap.size+1,0,none⟩))
      have cB1_0:=((hs_.keep (fm2 (show w.heap.size+1+1≠w.heap.size+1 from by first|omega|(simp only [];omega)|(simp;omega)) fm0) HB1_2.out.drew)).cell 0 rfl
      have cB1_1:=((hs_.keep (fm2 (show w.heap.size+1+1≠w.heap.size+1 from by first|omega|(simp only [];omega)|(simp;omega)) fm0) HB1_2.out.drew)).cell 1 rfl
      have cB1_2:=((hs_.keep (fm2 (show w.heap.size+1+1≠w.heap.size+1 from by first|omega|(simp only [];omega)|(simp;omega)) fm0) HB1_2.out.drew)).cell 2 rfl
      refine Rn.val fun K_ hK_=>?_
      go_simp
      exact hK_.out _ (Ext.refl _)
    refine RnL.cons (fun g2 A_ W_ hs_=>?_) ?_
    · have q17_:=hs_.val 9 rfl rfl rfl
      have q18_:=hs_.val 10 rfl rfl rfl
      refine Rn.val fun K_ hK_=>?_
      go_simp
      refine ((rdot_c (row3 t) v _ (HG.out.ext hs_.1) HQ3.out HV.out (by omega) (by omega):Calls _ _ _ _ (Ret _ (.string (qs (rot t v).z))))).mono ?_;rintro e W9_ ⟨rfl,e9_⟩;exact hK_.out _ e9_
    refine RnL.cons (fun g2 A_ W_ hs_=>?_) ?_
    · have q11_:=hs_.val 3 rfl rfl rfl
      have q15_:=hs_.val 7 rfl rfl rfl
      have q19_:=hs_.val 11 rfl rfl rfl
      refine Rn.val fun K_ hK_=>?_
      go_simp
      exact hK_.out _ (Ext.refl _)
    refine RnL.cons (fun g2 A_ W_ hs_=>?_) ?_
    · have q4_:=(hs_.old 4 (by kernel_rfl):A_.tmps[4]?.getD undef = .pointer (some ⟨w.heap.size+1+1,0,none⟩))
      have q20_:=hs_.val 12 rfl rfl rfl
      refine Rn.st (n:=0) rfl fun hB0 K_ hK_=>?_
      have hB:Blk W_ (w.heap.size+1+1) #[.string ⟨#[]⟩,.string ⟨#[]⟩,.string ⟨#[]⟩] 31:=hB0;clear hB0
      have c_0:=hB.cell 0 rfl;have f_0:=hB.free 0
      have c_1:=hB.cell 1 rfl;have f_1:=hB.free 1
      have c_2:=hB.cell 2 rfl;have f_2:=hB.free 2
      have HB:=Lib.hid hB;clear hB
      go_simp
      exact hK_.out _ ((((Only.refl _ _).set 0 _).set 1 _).set 2 _) (((HB.out.set 0 _).set 1 _).set 2 _)
    exact RnL.nil
  simp only [fs,Kd.value,puts,Act.put,List.setIfInBounds_toArray,List.set_cons_zero,List.set_cons_succ]
  have HX3:Hid (Ext w w3):=Lib.hid hx_
  have HB2_3:Hid (Blk w3 (w.heap.size+1+1) #[.string (qs ((rot t v).x)),.string (qs ((rot t v).y)),.string (qs ((rot t v).z))] 31):=Lib.hid (hb_ 0 _ rfl)
  clear hx_ hm_ hne_ hk_ hb_
  go_wp2_with fail
  have gB2_0:=HB2_3.out.cell 0 rfl
  have gB2_1:=HB2_3.out.cell 1 rfl
  have gB2_2:=HB2_3.out.cell 2 rfl
  refine bodyPost_ret (v:=.agg #[.string (qs ((rot t v).x)),.string (qs ((rot t v).y)),.string (qs ((rot t v).z))]) (by simp [results,Tryz.results63,go_sem,gB2_0,gB2_1,gB2_2]) rfl ⟨rfl,HX3.out⟩

set_option maxHeartbeats 2000000 in
theorem rboth_n (t:Q4) (v:T3) (w:World) (g:Gd w) (hq:QErr t 0) (hv:TS v) (hr:terr v.l=2):Calls Tryz.prog 61 #[.agg #[.int .i64 t.w,.int .i64 t.x,.int .i64 t.y,.int .i64 t.z],.agg #[.string v.x,.string v.y,.string v.z]] w (Ret w (.int .i64 2)):=by
  have HE:=Lib.hid hq
  have HV:=Lib.hid hv
  have HR:=Lib.hid hr
  have HG:=Lib.hid g
  clear hq hv hr g
  go_enter Tryz.func61,Tryz.ntmps61
  go_wp2_with fail
  refine (rchk_l _ (HG.out.ext (((Ext.refl w).alloc _).alloc _)) HE.out).mono ?_;rintro e w1 ⟨rfl,e1⟩
  have HX1:Hid (Ext w w1):=Lib.hid ((((Ext.refl w).alloc _).alloc _).trans e1)
  have HB1_1:Hid (Blk w1 (w.heap.size+1) #[.string v.x,.string v.y,.string v.z] 31):=Lib.hid (Blk.ext (Blk.new' (w:=_) (cs:=#[.string v.x,.string v.y,.string v.z]) (t:=31) (by first|rfl|(simp only [World.size_alloc];done)|(simp only [World.size_alloc];omega)|simp)) e1)
  have HGEB1:Hid (w.heap.size≤w.heap.size+1):=Lib.hid (by first|omega|(simp only [];omega)|(simp;omega))
  clear e1
  have c1_0:=HB1_1.out.cell 0 rfl
  have c1_1:=HB1_1.out.cell 1 rfl
  have c1_2:=HB1_1.out.cell 2 rfl
  go_wp2_with fail
  refine ((HR.out▸vcheck_c v _ (HG.out.ext HX1.out) HV.out)).mono ?_;rintro e w2 ⟨rfl,e2⟩
  have HX2:Hid (Ext w w2):=Lib.hid (HX1.out.trans e2)
  clear e2 c1_0 c1_1 c1_2
  go_wp2
  go_ret
  exact ⟨rfl,HX2.out⟩

set_option maxHeartbeats 2000000 in
theorem rboth_ok (t:Q4) (v:V3) (w:World) (g:Gd w) (hq:QErr t 0) (hv:VB 200 v):Calls Tryz.prog 61 #[.agg #[.int .i64 t.w,.int .i64 t.x,.int .i64 t.y,.int .i64 t.z],.agg #[.string (qs v.x),.string (qs v.y),.string (qs v.z)]] w (Ret w (.int .i64 0)):=by
  have HE:=Lib.hid hq
  have HV:=Lib.hid hv
  have HG:=Lib.hid g
  clear hq hv g
  go_enter Tryz.func61,Tryz.ntmps61
  go_wp2_with fail
  refine (rchk_l _ (HG.out.ext (((Ext.refl w).alloc _).alloc _)) HE.out).mono ?_;rintro e w1 ⟨rfl,e1⟩
  have HX1:Hid (Ext w w1):=Lib.hid ((((Ext.refl w).alloc _).alloc _).trans e1)
  have HB1_1:Hid (Blk w1 (w.heap.size+1) #[.string (qs v.x),.string (qs v.y),.string (qs v.z)] 31):=Lib.hid (Blk.ext (Blk.new' (w:=_) (cs:=#[.string (qs v.x),.string (qs v.y),.string (qs v.z)]) (t:=31) (by first|rfl|(simp only [World.size_alloc];done)|(simp only [World.size_alloc];omega)|simp)) e1)
  have HGEB1:Hid (w.heap.size≤w.heap.size+1):=Lib.hid (by first|omega|(simp only [];omega)|(simp;omega))
  clear e1
  have c1_0:=HB1_1.out.cell 0 rfl
  have c1_1:=HB1_1.out.cell 1 rfl
  have c1_2:=HB1_1.out.cell 2 rfl
  go_wp2_with fail
  refine (vCheck_ok v _ (HG.out.ext HX1.out) HV.out).mono ?_;rintro e w2 ⟨rfl,e2⟩
  have HX2:Hid (Ext w w2):=Lib.hid (HX1.out.trans e2)
  clear e2 c1_0 c1_1 c1_2
  go_wp2
  go_ret
  exact ⟨rfl,HX2.out⟩

set_option maxHeartbeats 2000000 in
theorem rres_ok (v:V3) (w:World) (g:Gd w) (hv:VB 200 v):Calls Tryz.prog 62 #[.agg #[.string (qs v.x),.string (qs v.y),.string (qs v.z)]] w (Ret w (.tuple #[.agg #[.string (qs v.x),.string (qs v.y),.string (qs v.z)],.int .i64 0])):=by
  have HV:=Lib.hid hv
  have HG:=Lib.hid g
  clear hv g
  go_enter Tryz.func62,Tryz.ntmps62
  go_wp2_with fail
  refine (vCheck_ok v _ (HG.out.ext (((Ext.refl w).alloc _).alloc _)) HV.out).mono ?_;rintro e w1 ⟨rfl,e1⟩
  have HX1:Hid (Ext w w1):=Lib.hid ((((Ext.refl w).alloc _).alloc _).trans e1)
  have HB0_1:Hid (Blk w1 (w.heap.size) #[.string (qs v.x),.string (qs v.y),.string (qs v.z)] 31):=Lib.hid (Blk.ext ((Blk.new' (w:=_) (cs:=#[.string (qs v.x),.string (qs v.y),.string (qs v.z)]) (t:=31) (by first|rfl|(simp only [World.size_alloc];done)|(simp only [World.size_alloc];omega)|simp)).alloc _) e1)
  have HB1_1:Hid (Blk w1 (w.heap.size+1) #[.string ⟨#[]⟩,.string ⟨#[]⟩,.string ⟨#[]⟩] 31):=Lib.hid (Blk.ext (Blk.new' (w:=_) (cs:=#[.string ⟨#[]⟩,.string ⟨#[]⟩,.string ⟨#[]⟩]) (t:=31) (by first|rfl|(simp only [World.size_alloc];done)|(simp only [World.size_alloc];omega)|simp)) e1)
  have HGEB0:Hid (w.heap.size≤w.heap.size):=Lib.hid (by first|omega|(simp only [];omega)|(simp;omega))
  have HGEB1:Hid (w.heap.size≤w.heap.size+1):=Lib.hid (by first|omega|(simp only [];omega)|(simp;omega))
  clear e1
  have c0_0:=HB0_1.out.cell 0 rfl
  have c0_1:=HB0_1.out.cell 1 rfl
  have c0_2:=HB0_1.out.cell 2 rfl
  have c1_0:=HB1_1.out.cell 0 rfl
  have f1_0:=HB1_1.out.free 0
  have c1_1:=HB1_1.out.cell 1 rfl
  have f1_1:=HB1_1.out.free 1
  have c1_2:=HB1_1.out.cell 2 rfl
  have f1_2:=HB1_1.out.free 2
  go_wp2_with fail
  refine wp_name (fun W=>Ext w W∧Blk W (w.heap.size+1) #[.string (qs v.x),.string (qs v.y),.string (qs v.z)] 31) ⟨(((HX1.out.setCell (by have:=HGEB1.out;first|omega|(simp only [];omega)|(simp;omega)) _).setCell (by have:=HGEB1.out;first|omega|(simp only [];omega)|(simp;omega)) _).setCell (by have:=HGEB1.out;first|omega|(simp only [];omega)|(simp;omega)) _),(((HB1_1.out.set 0 (.string (qs v.x))).set 1 (.string (qs v.y))).set 2 (.string (qs v.z)))⟩ ?_
  rintro w2 ⟨e2,bB1_2⟩
  have HX2:=Lib.hid e2;have HB1_2:=Lib.hid bB1_2
  clear e2 bB1_2 c0_0 c0_1 c0_2 c1_0 f1_0 c1_1 f1_1 c1_2 f1_2
  have gB1_0:=HB1_2.out.cell 0 rfl
  have gB1_1:=HB1_2.out.cell 1 rfl
  have gB1_2:=HB1_2.out.cell 2 rfl
  refine bodyPost_ret (v:=.tuple #[.agg #[.string (qs v.x),.string (qs v.y),.string (qs v.z)],.int .i64 0]) (by simp [results,Tryz.results62,go_sem,gB1_0,gB1_1,gB1_2]) rfl ⟨rfl,HX2.out⟩

set_option maxHeartbeats 2000000 in
theorem rapply_c (t:Q4) (v:V3) {k:Nat} (w:World) (g:Gd w) (hi:Q4In t) (hz:¬ t.zero) (hv:VB k v) (hk:k≤40):Calls Tryz.prog 30 #[.agg #[.int .i64 t.w,.int .i64 t.x,.int .i64 t.y,.int .i64 t.z],.agg #[.string (qs v.x),.string (qs v.y),.string (qs v.z)]] w (Ret w (.tuple #[.agg #[.string (qs ((rot t v).x)),.string (qs ((rot t v).y)),.string (qs ((rot t v).z))],.int .i64 0])):=by
  have HI:=Lib.hid hi
  have HZ:=Lib.hid hz
  have HV:=Lib.hid hv
  have HG:=Lib.hid g
  clear hi hz hv g
  have HRV:=Lib.hid (rot_qb HI.out HZ.out HV.out)
  go_enter Tryz.func30,Tryz.ntmps30
  go_wp2_with fail
  refine (rboth_ok t v _ (HG.out.ext ((((Ext.refl w).alloc _).alloc _).alloc _)) (.ok HI.out HZ.out) (HV.out.mono (by omega))).mono ?_;rintro e w1 ⟨rfl,e1⟩
  have HX1:Hid (Ext w w1):=Lib.hid (((((Ext.refl w).alloc _).alloc _).alloc _).trans e1)
  have HB0_1:Hid (Blk w1 (w.heap.size) #[.int .i64 t.w,.int .i64 t.x,.int .i64 t.y,.int .i64 t.z] 22):=Lib.hid (Blk.ext (((Blk.new' (w:=_) (cs:=#[.int .i64 t.w,.int .i64 t.x,.int .i64 t.y,.int .i64 t.z]) (t:=22) (by first|rfl|(simp only [World.size_alloc];done)|(simp only [World.size_alloc];omega)|simp)).alloc _).alloc _) e1)
  have HB1_1:Hid (Blk w1 (w.heap.size+1) #[.string (qs v.x),.string (qs v.y),.string (qs v.z)] 31):=Lib.hid (Blk.ext ((Blk.new' (w:=_) (cs:=#[.string (qs v.x),.string (qs v.y),.string (qs v.z)]) (t:=31) (by first|rfl|(simp only [World.size_alloc];done)|(simp only [World.size_alloc];omega)|simp)).alloc _) e1)
  have HB2_1:Hid (Blk w1 (w.heap.size+1+1) #[.string ⟨#[]⟩,.string ⟨#[]⟩,.string ⟨#[]⟩] 31):=Lib.hid (Blk.ext (Blk.new' (w:=_) (cs:=#[.string ⟨#[]⟩,.string ⟨#[]⟩,.string ⟨#[]⟩]) (t:=31) (by first|rfl|(simp only [World.size_alloc];done)|(simp only [World.size_alloc];omega)|simp)) e1)
  have HGEB0:Hid (w.heap.size≤w.heap.size):=Lib.hid (by first|omega|(simp only [];omega)|(simp;omega))
  have HGEB1:Hid (w.heap.size≤w.heap.size+1):=Lib.hid (by first|omega|(simp only [];omega)|(simp;omega))
  have HGEB2:Hid (w.heap.size≤w.heap.size+1+1):=Lib.hid (by first|omega|(simp only [];omega)|(simp;omega))
  clear e1
  have c0_0:=HB0_1.out.cell 0 rfl
  have c0_1:=HB0_1.out.cell 1 rfl
  have c0_2:=HB0_1.out.cell 2 rfl
  have c0_3:=HB0_1.out.cell 3 rfl
  have c1_0:=HB1_1.out.cell 0 rfl
  have c1_1:=HB1_1.out.cell 1 rfl
  have c1_2:=HB1_1.out.cell 2 rfl
  go_wp2_with fail
  refine (rturned_c t v _ (HG.out.ext HX1.out) HI.out HZ.out HV.out (by omega)).mono ?_;rintro e w2 ⟨rfl,e2⟩
  have HX2:Hid (Ext w w2):=Lib.hid (HX1.out.trans e2)
  have HB2_2:=Lib.hid (Blk.ext HB2_1.out e2)
  clear e2 c0_0 c0_1 c0_2 c0_3 c1_0 c1_1 c1_2
  go_wp2_with fail
  refine (rres_ok (rot t v) _ (HG.out.ext HX2.out) (HRV.out.mono (by omega))).mono ?_;rintro e w3 ⟨rfl,e3⟩
  have HX3:Hid (Ext w w3):=Lib.hid (HX2.out.trans e3)
  have HB2_3:=Lib.hid (Blk.ext HB2_2.out e3)
  clear e3
  have c2_0:=HB2_3.out.cell 0 rfl
  have f2_0:=HB2_3.out.free 0
  have c2_1:=HB2_3.out.cell 1 rfl
  have f2_1:=HB2_3.out.free 1
  have c2_2:=HB2_3.out.cell 2 rfl
  have f2_2:=HB2_3.out.free 2
  go_wp2_with fail
  refine wp_name (fun W=>Ext w W∧Blk W (w.heap.size+1+1) #[.string (qs ((rot t v).x)),.string (qs ((rot t v).y)),.string (qs ((rot t v).z))] 31) ⟨(((HX3.out.setCell (by have:=HGEB2.out;first|omega|(simp only [];omega)|(simp;omega)) _).setCell (by have:=HGEB2.out;first|omega|(simp only [];omega)|(simp;omega)) _).setCell (by have:=HGEB2.out;first|omega|(simp only [];omega)|(simp;omega)) _),(((HB2_3.out.set 0 (.string (qs ((rot t v).x)))).set 1 (.string (qs ((rot t v).y)))).set 2 (.string (qs ((rot t v).z))))⟩ ?_
  rintro w4 ⟨e4,bB2_4⟩
  have HX4:=Lib.hid e4;have HB2_4:=Lib.hid bB2_4
  clear e4 bB2_4 c2_0 f2_0 c2_1 f2_1 c2_2 f2_2
  have gB2_0:=HB2_4.out.cell 0 rfl
  have gB2_1:=HB2_4.out.cell 1 rfl
  have gB2_2:=HB2_4.out.cell 2 rfl
  refine bodyPost_ret (v:=.tuple #[.agg #[.string (qs ((rot t v).x)),.string (qs ((rot t v).y)),.string (qs ((rot t v).z))],.int .i64 0]) (by simp [results,Tryz.results30,go_sem,gB2_0,gB2_1,gB2_2]) rfl ⟨rfl,HX4.out⟩
end Go.Proofs.YtjeimihnoiephaaGreatDoor

namespace Go.Proofs.YtjeimihnoiephaaGreatDoor
open Go Go.RowKit
set_option linter.unusedVariables false
theorem rsign_p (X:Int) (h:0<X) (w:World):Calls Tryz.prog 175 #[.string (zs X)] w (fun e w'=>e = .returned (.int .i64 1)∧w=w'):=by
  have:=rsign_c (X:Rat) w
  rwa [qs_int,Rat.num_intCast,Int.sign_eq_one_of_pos h] at this
theorem iroot_as (r:Nat) (X:Int) (e:((r*r:Nat):Int)=X) (w:World) (g:Gd w) (h0:0<r) (h1:r*r<1000000000):Calls Tryz.prog 176 #[.string (zs X)] w (Ret w (.tuple #[.string (zs (r:Int)),.int .i64 0])):=by
  subst e;exact iroot_c r w g h0 h1
theorem iroot_1 (w:World) (g:Gd w):Calls Tryz.prog 176 #[.string ⟨#[49]⟩] w (Ret w (.tuple #[.string ⟨#[49]⟩,.int .i64 0])):=by
  have:=iroot_c 1 w g (by decide) (by decide)
  rwa [show ((1*1:Nat):Int)=1 from rfl,zs_one] at this
theorem imul_11 (w:World) (g:Gd w):Calls Tryz.prog 75 #[.string ⟨#[49]⟩,.string ⟨#[49]⟩] w (Ret w (.string ⟨#[49]⟩)):=by
  have:=imul1_as 1 1 rfl w g IB.one (by decide)
  rwa [zs_one] at this
theorem join_1 (n:Int) {k:Nat} (w:World) (hn:IB k n) (hk:k≤9000):Calls Tryz.prog 151 #[.string (zs n),.string ⟨#[49]⟩] w (fun e w'=>e = .returned (.string (zs n))∧w=w'):=by
  have:=join_c n 1 w hn (⟨by decide⟩:IB 1 ((1:Nat):Int)) hk (by decide)
  rwa [show ((1:Nat):Int)=1 from rfl,zs_one,show (⟨(joinl n 1).toArray⟩:ByteArray)=zs n by unfold joinl;rw [if_pos rfl];rfl] at this

set_option maxHeartbeats 2000000 in
theorem rroot_c (r:Nat) (X:Int) (e:((r*r:Nat):Int)=X) (w:World) (g:Gd w) (h0:0<r) (h1:r*r<1000000000):Calls Tryz.prog 143 #[.string (zs X)] w (Ret w (.tuple #[.string (zs (r:Int)),.bool true])):=by
  have HX9:=Lib.hid e
  have H0:=Lib.hid h0
  have H1:=Lib.hid h1
  have HG:=Lib.hid g
  clear e h0 h1 g
  have HRB:Hid (IB 9 (r:Int)):=Lib.hid ⟨by rw [Int.natAbs_natCast];have h0:=H0.out;have h1:=H1.out;have h2:=Nat.le_mul_self r;omega⟩
  have HXB:Hid (IB 9 X):=Lib.hid ⟨by have h1:=H1.out;have h2:=HX9.out;omega⟩
  have HXP:Hid (0<X):=Lib.hid (by have h0:=Nat.mul_pos H0.out H0.out;have h2:=HX9.out;omega)
  go_enter Tryz.func143,Tryz.ntmps143
  go_wp2_with fail
  refine (rsign_p X HXP.out _).mono ?_;rintro e _ ⟨rfl,rfl⟩
  go_wp2_with fail
  refine (partsz_c X _ HXB.out (by decide) (by decide)).mono ?_;rintro e w1 ⟨rfl,e1⟩
  have HX1:Hid (Ext w w1):=Lib.hid ((Ext.refl w).trans e1)
  clear e1
  go_wp2_with fail
  refine (iroot_as r X HX9.out _ (HG.out.ext HX1.out) H0.out H1.out).mono ?_;rintro e w2 ⟨rfl,e2⟩
  have HX2:Hid (Ext w w2):=Lib.hid (HX1.out.trans e2)
  clear e2
  go_wp2_with fail
  refine (iroot_1 _ (HG.out.ext HX2.out)).mono ?_;rintro e w3 ⟨rfl,e3⟩
  have HX3:Hid (Ext w w3):=Lib.hid (HX2.out.trans e3)
  clear e3
  go_wp2_with fail
  refine (imul_as (r:Int) (r:Int) X (by rw [← HX9.out,Int.natCast_mul]) _ (HG.out.ext HX3.out) HRB.out HRB.out (by decide) (by decide)).mono ?_;rintro e w4 ⟨rfl,e4⟩
  have HX4:Hid (Ext w w4):=Lib.hid (HX3.out.trans e4)
  clear e4
  go_wp2_with fail
  refine (imul_11 _ (HG.out.ext HX4.out)).mono ?_;rintro e w5 ⟨rfl,e5⟩
  have HX5:Hid (Ext w w5):=Lib.hid (HX4.out.trans e5)
  clear e5
  go_wp2_with fail
  refine (join_1 (r:Int) _ HRB.out (by decide)).mono ?_;rintro e _ ⟨rfl,rfl⟩
  go_wp2
  go_ret2
  exact ⟨rfl,HX5.out⟩

theorem rdot_z (v:V3) (X:Int) (e:dot3 v v=(X:Rat)) {k:Nat} (w:World) (g:Gd w) (hv:VB k v) (hk:k≤200):Calls Tryz.prog 120 #[.agg #[.string (qs v.x),.string (qs v.y),.string (qs v.z)],.agg #[.string (qs v.x),.string (qs v.y),.string (qs v.z)]] w (Ret w (.string (zs X))):=by
  have:=rdot_c v v w g hv hv hk hk
  unfold dot3 at e
  rwa [e,qs_int] at this
theorem rroot_as (r:Nat) (X:Int) (l:Rat) (e:((r*r:Nat):Int)=X) (hl:l=((r:Int):Rat)) (w:World) (g:Gd w) (h0:0<r) (h1:r*r<1000000000):Calls Tryz.prog 143 #[.string (zs X)] w (Ret w (.tuple #[.string (qs l),.bool true])):=by
  subst hl;rw [qs_int];exact rroot_c r X e w g h0 h1
theorem len_qb {l:Rat} {r:Nat} (hl:l=((r:Int):Rat)) (h1:r*r<1000000000):QB 9 l:=by
  subst hl
  exact QB.int ⟨by rw [Int.natAbs_natCast];have h2:=Nat.le_mul_self r;omega⟩ (by decide)

set_option maxHeartbeats 2000000 in
theorem rlen_c (v:V3) (l:Rat) (r:Nat) (X:Int) (e:((r*r:Nat):Int)=X) {k:Nat} (w:World) (g:Gd w) (h0:0<r) (h1:r*r<1000000000) (hv:VB k v) (hk:k≤40) (hd:dot3 v v=(X:Rat)) (hl:l=((r:Int):Rat)):Calls Tryz.prog 89 #[.agg #[.string (qs v.x),.string (qs v.y),.string (qs v.z)]] w (Ret w (.tuple #[.string (qs l),.int .i64 0])):=by
  have HX9:=Lib.hid e
  have H0:=Lib.hid h0
  have H1:=Lib.hid h1
  have HV:=Lib.hid hv
  have HD:=Lib.hid hd
  have HL:=Lib.hid hl
  have HG:=Lib.hid g
  clear e h0 h1 hv hd hl g
  have HLB:=Lib.hid (len_qb HL.out H1.out)
  go_enter Tryz.func89,Tryz.ntmps89
  go_wp2_with fail
  refine (vCheck_ok v _ (HG.out.ext ((Ext.refl w).alloc _)) (HV.out.mono (by omega))).mono ?_;rintro e w1 ⟨rfl,e1⟩
  have HX1:Hid (Ext w w1):=Lib.hid (((Ext.refl w).alloc _).trans e1)
  have HB0_1:Hid (Blk w1 (w.heap.size) #[.string (qs v.x),.string (qs v.y),.string (qs v.z)] 31):=Lib.hid (Blk.ext (Blk.new' (w:=_) (cs:=#[.string (qs v.x),.string (qs v.y),.string (qs v.z)]) (t:=31) (by first|rfl|(simp only [World.size_alloc];done)|(simp only [World.size_alloc];omega)|simp)) e1)
  have HGEB0:Hid (w.heap.size≤w.heap.size):=Lib.hid (by first|omega|(simp only [];omega)|(simp;omega))
  clear e1
  have c0_0:=HB0_1.out.cell 0 rfl
  have c0_1:=HB0_1.out.cell 1 rfl
  have c0_2:=HB0_1.out.cell 2 rfl
  go_wp2_with fail
  refine (rdot_z v X HD.out _ (HG.out.ext HX1.out) HV.out (by omega)).mono ?_;rintro e w2 ⟨rfl,e2⟩
  have HX2:Hid (Ext w w2):=Lib.hid (HX1.out.trans e2)
  clear e2 c0_0 c0_1 c0_2
  go_wp2_with fail
  refine (rroot_as r X l HX9.out HL.out _ (HG.out.ext HX2.out) H0.out H1.out).mono ?_;rintro e w3 ⟨rfl,e3⟩
  have HX3:Hid (Ext w w3):=Lib.hid (HX2.out.trans e3)
  clear e3
  go_wp2_with fail
  refine (rcheck_yes (qs l) _ (HG.out.ext HX3.out) ((HLB.out.mono (by decide):QB 200 l).len (by decide)) (rq_qs (HLB.out.mono (by decide)))).mono ?_;rintro e w4 ⟨rfl,e4⟩
  have HX4:Hid (Ext w w4):=Lib.hid (HX3.out.trans e4)
  clear e4
  go_wp2
  go_ret2
  exact ⟨rfl,HX4.out⟩

set_option maxHeartbeats 2000000 in
theorem runt_z (v:V3) {k:Nat} (w:World) (g:Gd w) (hv:VB k v) (hk:k≤40) (hx0:v.x=0) (hy0:v.y=0) (hz0:v.z=0):Calls Tryz.prog 40 #[.agg #[.string (qs v.x),.string (qs v.y),.string (qs v.z)]] w (Ret w (.tuple #[.agg #[.int .i64 0,.int .i64 0,.int .i64 0,.int .i64 0],.int .i64 17])):=by
  have HV:=Lib.hid hv
  have HG:=Lib.hid g
  clear hv g
  have hx0_t:=qs_is0 hx0
  have hy0_t:=qs_is0 hy0
  have hz0_t:=qs_is0 hz0
  clear hx0 hy0 hz0
  go_enter Tryz.func40,Tryz.ntmps40
  go_wp2_with fail
  refine (vCheck_ok v _ (HG.out.ext (((Ext.refl w).alloc _).alloc _)) (HV.out.mono (by omega))).mono ?_;rintro e w1 ⟨rfl,e1⟩
  have HX1:Hid (Ext w w1):=Lib.hid ((((Ext.refl w).alloc _).alloc _).trans e1)
  have HB0_1:Hid (Blk w1 (w.heap.size) #[.string (qs v.x),.string (qs v.y),.string (qs v.z)] 31):=Lib.hid (Blk.ext ((Blk.new' (w:=_) (cs:=#[.string (qs v.x),.string (qs v.y),.string (qs v.z)]) (t:=31) (by first|rfl|(simp only [World.size_alloc];done)|(simp only [World.size_alloc];omega)|simp)).alloc _) e1)
  have HB1_1:Hid (Blk w1 (w.heap.size+1) #[.int .i64 0,.int .i64 0,.int .i64 0,.int .i64 0] 22):=Lib.hid (Blk.ext (Blk.new' (w:=_) (cs:=#[.int .i64 0,.int .i64 0,.int .i64 0,.int .i64 0]) (t:=22) (by first|rfl|(simp only [World.size_alloc];done)|(simp only [World.size_alloc];omega)|simp)) e1)
  have HGEB0:Hid (w.heap.size≤w.heap.size):=Lib.hid (by first|omega|(simp only [];omega)|(simp;omega))
  have HGEB1:Hid (w.heap.size≤w.heap.size+1):=Lib.hid (by first|omega|(simp only [];omega)|(simp;omega))
  clear e1
  have c0_0:=HB0_1.out.cell 0 rfl
  have c0_1:=HB0_1.out.cell 1 rfl
  have c0_2:=HB0_1.out.cell 2 rfl
  have c1_0:=HB1_1.out.cell 0 rfl
  have f1_0:=HB1_1.out.free 0
  have c1_1:=HB1_1.out.cell 1 rfl
  have f1_1:=HB1_1.out.free 1
  have c1_2:=HB1_1.out.cell 2 rfl
  have f1_2:=HB1_1.out.free 2
  have c1_3:=HB1_1.out.cell 3 rfl
  have f1_3:=HB1_1.out.free 3
  go_wp2_with fail
  refine wp_name (fun W=>Ext w W∧Blk W (w.heap.size+1) #[.int .i64 0,.int .i64 0,.int .i64 0,.int .i64 0] 22) ⟨((((HX1.out.setCell (by have:=HGEB1.out;first|omega|(simp only [];omega)|(simp;omega)) _).setCell (by have:=HGEB1.out;first|omega|(simp only [];omega)|(simp;omega)) _).setCell (by have:=HGEB1.out;first|omega|(simp only [];omega)|(simp;omega)) _).setCell (by have:=HGEB1.out;first|omega|(simp only [];omega)|(simp;omega)) _),((((HB1_1.out.set 0 (.int .i64 0)).set 1 (.int .i64 0)).set 2 (.int .i64 0)).set 3 (.int .i64 0))⟩ ?_
  rintro w2 ⟨e2,bB1_2⟩
  have HX2:=Lib.hid e2;have HB1_2:=Lib.hid bB1_2
  clear e2 bB1_2 c0_0 c0_1 c0_2 c1_0 f1_0 c1_1 f1_1 c1_2 f1_2 c1_3 f1_3
  have gB1_0:=HB1_2.out.cell 0 rfl
  have gB1_1:=HB1_2.out.cell 1 rfl
  have gB1_2:=HB1_2.out.cell 2 rfl
  have gB1_3:=HB1_2.out.cell 3 rfl
  refine bodyPost_ret (v:=.tuple #[.agg #[.int .i64 0,.int .i64 0,.int .i64 0,.int .i64 0],.int .i64 17]) (by simp [results,Tryz.results40,go_sem,gB1_0,gB1_1,gB1_2,gB1_3]) rfl ⟨rfl,HX2.out⟩

theorem radd_as (a b c:Rat) (e:a+b=c) {k:Nat} (w:World) (g:Gd w) (ha:QB 9 a) (hb:QB k b) (hk:k≤40):Calls Tryz.prog 90 #[.string (qs a),.string (qs b)] w (Ret w (.string (qs c))):=by
  subst e;exact radd_c a b w g ha hb (by decide) (by omega)
theorem rwhole0_in (x y z:Rat) (N p:Q4) (w:World) (g:Gd w) (h1:QB 100 x) (h2:QB 100 y) (h3:QB 100 z) (hn:num4 x y z 0=N) (h0:0<x) (hp:prim4 N=p) (hi:Q4In p):Calls Tryz.prog 45 #[.agg #[.string (qs x),.string (qs y),.string (qs z),.string ⟨#[48]⟩]] w (Ret w (.tuple #[.agg #[.int .i64 p.w,.int .i64 p.x,.int .i64 p.y,.int .i64 p.z],.int .i64 0])):=by
  have h:=rwhole_in x y z 0 N p w g h1 h2 h3 ((⟨by decide,by decide⟩:QB 1 0).mono (by decide)) hn h0 hp hi
  rwa [qs_zero] at h

set_option maxHeartbeats 2000000 in
theorem runt_flip (v:V3) (l:Rat) (r:Nat) (X:Int) (W:Rat) (e:((r*r:Nat):Int)=X) {k:Nat} (w:World) (g:Gd w) (h0:0<r) (h1:r*r<1000000000) (hv:VB k v) (hk:k≤40) (hd:dot3 v v=(X:Rat)) (hl:l=((r:Int):Rat)) (hw:l+v.z=W) (hx0:v.x=0) (hy0:v.y=0) (hz0:v.z≠0) (hw0:W=0):Calls Tryz.prog 40 #[.agg #[.string (qs v.x),.string (qs v.y),.string (qs v.z)]] w (Ret w (.tuple #[.agg #[.int .i64 0,.int .i64 1,.int .i64 0,.int .i64 0],.int .i64 0])):=by
  have HX9:=Lib.hid e
  have H0:=Lib.hid h0
  have H1:=Lib.hid h1
  have HV:=Lib.hid hv
  have HD:=Lib.hid hd
  have HL:=Lib.hid hl
  have HWE:=Lib.hid hw
  have HG:=Lib.hid g
  clear e h0 h1 hv hd hl hw g
  have HLB:=Lib.hid (len_qb HL.out H1.out)
  have hx0_t:=qs_is0 hx0
  have hy0_t:=qs_is0 hy0
  have hz0_t:=qs_not0 hz0
  have hw0_t:=qs_is0 hw0
  clear hx0 hy0 hz0 hw0
  go_enter Tryz.func40,Tryz.ntmps40
  go_wp2_with fail
  refine (vCheck_ok v _ (HG.out.ext (((Ext.refl w).alloc _).alloc _)) (HV.out.mono (by omega))).mono ?_;rintro e w1 ⟨rfl,e1⟩
  have HX1:Hid (Ext w w1):=Lib.hid ((((Ext.refl w).alloc _).alloc _).trans e1)
  have HB0_1:Hid (Blk w1 (w.heap.size) #[.string (qs v.x),.string (qs v.y),.string (qs v.z)] 31):=Lib.hid (Blk.ext ((Blk.new' (w:=_) (cs:=#[.string (qs v.x),.string (qs v.y),.string (qs v.z)]) (t:=31) (by first|rfl|(simp only [World.size_alloc];done)|(simp only [World.size_alloc];omega)|simp)).alloc _) e1)
  have HB1_1:Hid (Blk w1 (w.heap.size+1) #[.int .i64 0,.int .i64 0,.int .i64 0,.int .i64 0] 22):=Lib.hid (Blk.ext (Blk.new' (w:=_) (cs:=#[.int .i64 0,.int .i64 0,.int .i64 0,.int .i64 0]) (t:=22) (by first|rfl|(simp only [World.size_alloc];done)|(simp only [World.size_alloc];omega)|simp)) e1)
  have HGEB0:Hid (w.heap.size≤w.heap.size):=Lib.hid (by first|omega|(simp only [];omega)|(simp;omega))
  have HGEB1:Hid (w.heap.size≤w.heap.size+1):=Lib.hid (by first|omega|(simp only [];omega)|(simp;omega))
  clear e1
  have c0_0:=HB0_1.out.cell 0 rfl
  have c0_1:=HB0_1.out.cell 1 rfl
  have c0_2:=HB0_1.out.cell 2 rfl
  go_wp2_with fail
  refine (rlen_c v l r X HX9.out _ (HG.out.ext HX1.out) H0.out H1.out HV.out hk HD.out HL.out).mono ?_;rintro e w2 ⟨rfl,e2⟩
  have HX2:Hid (Ext w w2):=Lib.hid (HX1.out.trans e2)
  have HB0_2:=Lib.hid (Blk.ext HB0_1.out e2)
  have HB1_2:=Lib.hid (Blk.ext HB1_1.out e2)
  clear e2 c0_0 c0_1 c0_2
  have c0_2:=HB0_2.out.cell 2 rfl
  go_wp2_with fail
  refine (radd_as l v.z W HWE.out _ (HG.out.ext HX2.out) HLB.out HV.out.z (by omega)).mono ?_;rintro e w3 ⟨rfl,e3⟩
  have HX3:Hid (Ext w w3):=Lib.hid (HX2.out.trans e3)
  have HB1_3:=Lib.hid (Blk.ext HB1_2.out e3)
  clear e3 c0_2
  have c1_0:=HB1_3.out.cell 0 rfl
  have f1_0:=HB1_3.out.free 0
  have c1_1:=HB1_3.out.cell 1 rfl
  have f1_1:=HB1_3.out.free 1
  have c1_2:=HB1_3.out.cell 2 rfl
  have f1_2:=HB1_3.out.free 2
  have c1_3:=HB1_3.out.cell 3 rfl
  have f1_3:=HB1_3.out.free 3
  go_wp2_with fail
  refine wp_name (fun W=>Ext w W∧Blk W (w.heap.size+1) #[.int .i64 0,.int .i64 1,.int .i64 0,.int .i64 0] 22) ⟨((((HX3.out.setCell (by have:=HGEB1.out;first|omega|(simp only [];omega)|(simp;omega)) _).setCell (by have:=HGEB1.out;first|omega|(simp only [];omega)|(simp;omega)) _).setCell (by have:=HGEB1.out;first|omega|(simp only [];omega)|(simp;omega)) _).setCell (by have:=HGEB1.out;first|omega|(simp only [];omega)|(simp;omega)) _),((((HB1_3.out.set 0 (.int .i64 0)).set 1 (.int .i64 1)).set 2 (.int .i64 0)).set 3 (.int .i64 0))⟩ ?_
  rintro w4 ⟨e4,bB1_4⟩
  have HX4:=Lib.hid e4;have HB1_4:=Lib.hid bB1_4
  clear e4 bB1_4 c1_0 f1_0 c1_1 f1_1 c1_2 f1_2 c1_3 f1_3
  have gB1_0:=HB1_4.out.cell 0 rfl
  have gB1_1:=HB1_4.out.cell 1 rfl
  have gB1_2:=HB1_4.out.cell 2 rfl
  have gB1_3:=HB1_4.out.cell 3 rfl
  refine bodyPost_ret (v:=.tuple #[.agg #[.int .i64 0,.int .i64 1,.int .i64 0,.int .i64 0],.int .i64 0]) (by simp [results,Tryz.results40,go_sem,gB1_0,gB1_1,gB1_2,gB1_3]) rfl ⟨rfl,HX4.out⟩

set_option maxHeartbeats 4000000 in
theorem runt_w0 (v:V3) (N p:Q4) (l:Rat) (r:Nat) (X:Int) (W:Rat) (e:((r*r:Nat):Int)=X) {k:Nat} (w:World) (g:Gd w) (h0:0<r) (h1:r*r<1000000000) (hv:VB k v) (hk:k≤40) (hd:dot3 v v=(X:Rat)) (hl:l=((r:Int):Rat)) (hw:l+v.z=W) (hn:num4 W v.y (-v.x) 0=N) (hwp:0<W) (hp:prim4 N=p) (hi:Q4In p) (hx0:v.x=0) (hy0:v.y=0) (hz0:v.z≠0):Calls Tryz.prog 40 #[.agg #[.string (qs v.x),.string (qs v.y),.string (qs v.z)]] w (Ret w (.tuple #[.agg #[.int .i64 p.w,.int .i64 p.x,.int .i64 p.y,.int .i64 p.z],.int .i64 0])):=by
  have HX9:=Lib.hid e
  have H0:=Lib.hid h0
  have H1:=Lib.hid h1
  have HV:=Lib.hid hv
  have HD:=Lib.hid hd
  have HL:=Lib.hid hl
  have HWE:=Lib.hid hw
  have HN:=Lib.hid hn
  have HWP:=Lib.hid hwp
  have HP:=Lib.hid hp
  have HPI:=Lib.hid hi
  have HG:=Lib.hid g
  clear e h0 h1 hv hd hl hw hn hwp hp hi g
  have HLB:=Lib.hid (len_qb HL.out H1.out)
  have HWB:Hid (QB (9+k+1) W):=Lib.hid (HWE.out▸HLB.out.add HV.out.z)
  have hw0:W≠0:=fun e=>absurd e (Rat.ne_of_gt HWP.out)
  have hw0_t:=qs_not0 hw0
  clear hw0
  have hx0_t:=qs_is0 hx0
  have hy0_t:=qs_is0 hy0
  have hz0_t:=qs_not0 hz0
  clear hx0 hy0 hz0
  go_enter Tryz.func40,Tryz.ntmps40
  go_wp2_with fail
  refine (vCheck_ok v _ (HG.out.ext (((Ext.refl w).alloc _).alloc _)) (HV.out.mono (by omega))).mono ?_;rintro e w1 ⟨rfl,e1⟩
  have HX1:Hid (Ext w w1):=Lib.hid ((((Ext.refl w).alloc _).alloc _).trans e1)
  have HB0_1:Hid (Blk w1 (w.heap.size) #[.string (qs v.x),.string (qs v.y),.string (qs v.z)] 31):=Lib.hid (Blk.ext ((Blk.new' (w:=_) (cs:=#[.string (qs v.x),.string (qs v.y),.string (qs v.z)]) (t:=31) (by first|rfl|(simp only [World.size_alloc];done)|(simp only [World.size_alloc];omega)|simp)).alloc _) e1)
  have HB1_1:Hid (Blk w1 (w.heap.size+1) #[.int .i64 0,.int .i64 0,.int .i64 0,.int .i64 0] 22):=Lib.hid (Blk.ext (Blk.new' (w:=_) (cs:=#[.int .i64 0,.int .i64 0,.int .i64 0,.int .i64 0]) (t:=22) (by first|rfl|(simp only [World.size_alloc];done)|(simp only [World.size_alloc];omega)|simp)) e1)
  have HGEB0:Hid (w.heap.size≤w.heap.size):=Lib.hid (by first|omega|(simp only [];omega)|(simp;omega))
  have HGEB1:Hid (w.heap.size≤w.heap.size+1):=Lib.hid (by first|omega|(simp only [];omega)|(simp;omega))
  clear e1
  have c0_0:=HB0_1.out.cell 0 rfl
  have c0_1:=HB0_1.out.cell 1 rfl
  have c0_2:=HB0_1.out.cell 2 rfl
  go_wp2_with fail
  refine (rlen_c v l r X HX9.out _ (HG.out.ext HX1.out) H0.out H1.out HV.out hk HD.out HL.out).mono ?_;rintro e w2 ⟨rfl,e2⟩
  have HX2:Hid (Ext w w2):=Lib.hid (HX1.out.trans e2)
  have HB0_2:=Lib.hid (Blk.ext HB0_1.out e2)
  have HB1_2:=Lib.hid (Blk.ext HB1_1.out e2)
  clear e2 c0_0 c0_1 c0_2
  have c0_2:=HB0_2.out.cell 2 rfl
  go_wp2_with fail
  refine (radd_as l v.z W HWE.out _ (HG.out.ext HX2.out) HLB.out HV.out.z (by omega)).mono ?_;rintro e w3 ⟨rfl,e3⟩
  have HX3:Hid (Ext w w3):=Lib.hid (HX2.out.trans e3)
  have HB0_3:=Lib.hid (Blk.ext HB0_2.out e3)
  have HB1_3:=Lib.hid (Blk.ext HB1_2.out e3)
  clear e3 c0_2
  go_wp2_with fail
  refine wp_name (fun W=>Ext w W∧Blk W (w.heap.size) #[.string (qs v.x),.string (qs v.y),.string (qs v.z)] 31∧Blk W (w.heap.size+1) #[.int .i64 0,.int .i64 0,.int .i64 0,.int .i64 0] 22) ⟨HX3.out,HB0_3.out,HB1_3.out⟩ ?_
  rintro w4 ⟨e4,bB0_4,bB1_4⟩
  have HX4:=Lib.hid e4;have HB0_4:=Lib.hid bB0_4;have HB1_4:=Lib.hid bB1_4
  clear e4 bB0_4 bB1_4
  refine region_lin_s (X:=w) [⟨w.heap.size+1,#[.int .i64 0,.int .i64 0,.int .i64 0,.int .i64 0],#[.int .i64 p.w,.int .i64 p.x,.int .i64 p.y,.int .i64 p.z],22⟩] [.val (.string (qs W)),.val (.pointer (some ⟨w.heap.size,1,none⟩)),.val (.string (qs v.y)),.val (.pointer (some ⟨w.heap.size,0,none⟩)),.val (.string (qs v.x)),.val (.string (qs (-v.x))),.val (.agg #[.string (qs W),.string (qs v.y),.string (qs (-v.x)),.string ⟨#[48]⟩]),.val (.tuple #[.agg #[.int .i64 p.w,.int .i64 p.x,.int .i64 p.y,.int .i64 p.z],.int .i64 0]),.val (.agg #[.int .i64 p.w,.int .i64 p.x,.int .i64 p.y,.int .i64 p.z]),.val (.int .i64 0),.st 0,.val (.int .i64 0)] (by kernel_rfl) (by kernel_rfl) (by kernel_rfl) HX4.out.drew (List.forall_mem_cons.2 ⟨⟨HGEB1.out,HB1_4.out.drew⟩,(fun _ h=>by cases h)⟩) dis1 ?_ (fun g4 w5 hx_ hk_ hb_ hm_ hne_=>?_)
  · skip
    refine RnL.cons (fun g4 A_ W_ hs_=>?_) ?_
    · have q7_:=(hs_.old 7 (by kernel_rfl):A_.tmps[7]?.getD undef = .string (qs W))
      refine Rn.val fun K_ hK_=>?_
      go_simp
      exact hK_.out _ (Ext.refl _)
    refine RnL.cons (fun g4 A_ W_ hs_=>?_) ?_
    · have q1_:=(hs_.old 1 (by kernel_rfl):A_.tmps[1]?.getD undef = .pointer (some ⟨w.heap.size,0,none⟩))
      refine Rn.val fun K_ hK_=>?_
      go_simp
      exact hK_.out _ (Ext.refl _)
    refine RnL.cons (fun g4 A_ W_ hs_=>?_) ?_
    · have q45_:=hs_.val 1 rfl rfl rfl
      have cB0_1:=((hs_.keep (fm2 (show w.heap.size+1≠w.heap.size from by first|omega|(simp only [];omega)|(simp;omega)) fm0) HB0_4.out.drew)).cell 1 rfl
      refine Rn.val fun K_ hK_=>?_
      go_simp
      exact hK_.out _ (Ext.refl _)
    refine RnL.cons (fun g4 A_ W_ hs_=>?_) ?_
    · have q1_:=(hs_.old 1 (by kernel_rfl):A_.tmps[1]?.getD undef = .pointer (some ⟨w.heap.size,0,none⟩))
      refine Rn.val fun K_ hK_=>?_
      go_simp
      exact hK_.out _ (Ext.refl _)
    refine RnL.cons (fun g4 A_ W_ hs_=>?_) ?_
    · have q47_:=hs_.val 3 rfl rfl rfl
      have cB0_0:=((hs_.keep (fm2 (show w.heap.size+1≠w.heap.size from by first|omega|(simp only [];omega)|(simp;omega)) fm0) HB0_4.out.drew)).cell 0 rfl
      refine Rn.val fun K_ hK_=>?_
      go_simp
      exact hK_.out _ (Ext.refl _)
    refine RnL.cons (fun g4 A_ W_ hs_=>?_) ?_
    · have q48_:=hs_.val 4 rfl rfl rfl
      refine Rn.val fun K_ hK_=>?_
      go_simp
      refine (rneg_c v.x _ HV.out.x (by omega)).mono ?_;rintro e W9_ ⟨rfl,e9_⟩;exact hK_.out _ e9_
    refine RnL.cons (fun g4 A_ W_ hs_=>?_) ?_
    · have q44_:=hs_.val 0 rfl rfl rfl
      have q46_:=hs_.val 2 rfl rfl rfl
      have q49_:=hs_.val 5 rfl rfl rfl
      refine Rn.val fun K_ hK_=>?_
      go_simp
      exact hK_.out _ (Ext.refl _)
    refine RnL.cons (fun g4 A_ W_ hs_=>?_) ?_
    · have q50_:=hs_.val 6 rfl rfl rfl
      refine Rn.val fun K_ hK_=>?_
      go_simp
      refine (rwhole0_in W v.y (-v.x) N p _ (HG.out.ext hs_.1) (HWB.out.mono (by omega)) (HV.out.y.mono (by omega)) (HV.out.x.neg.mono (by omega)) HN.out HWP.out HP.out HPI.out).mono ?_;rintro e W9_ ⟨rfl,e9_⟩;exact hK_.out _ e9_
    refine RnL.cons (fun g4 A_ W_ hs_=>?_) ?_
    · have q51_:=hs_.val 7 rfl rfl rfl
      refine Rn.val fun K_ hK_=>?_
      go_simp
      exact hK_.out _ (Ext.refl _)
    refine RnL.cons (fun g4 A_ W_ hs_=>?_) ?_
    · have q51_:=hs_.val 7 rfl rfl rfl
      refine Rn.val fun K_ hK_=>?_
      go_simp
      exact hK_.out _ (Ext.refl _)
    refine RnL.cons (fun g4 A_ W_ hs_=>?_) ?_
    · have q2_:=(hs_.old 2 (by kernel_rfl):A_.tmps[2]?.getD undef = .pointer (some ⟨w.heap.size+1,0,none⟩))
      have q52_:=hs_.val 8 rfl rfl rfl
      refine Rn.st (n:=0) rfl fun hB0 K_ hK_=>?_
      have hB:Blk W_ (w.heap.size+1) #[.int .i64 0,.int .i64 0,.int .i64 0,.int .i64 0] 22:=hB0;clear hB0
      have c_0:=hB.cell 0 rfl;have f_0:=hB.free 0
      have c_1:=hB.cell 1 rfl;have f_1:=hB.free 1
      have c_2:=hB.cell 2 rfl;have f_2:=hB.free 2
      have c_3:=hB.cell 3 rfl;have f_3:=hB.free 3
      have HB:=Lib.hid hB;clear hB
      go_simp
      exact hK_.out _ (((((Only.refl _ _).set 0 _).set 1 _).set 2 _).set 3 _) ((((HB.out.set 0 _).set 1 _).set 2 _).set 3 _)
    refine RnL.cons (fun g4 A_ W_ hs_=>?_) ?_
    · have q53_:=hs_.val 9 rfl rfl rfl
      refine Rn.val fun K_ hK_=>?_
      go_simp
      exact hK_.out _ (Ext.refl _)
    exact RnL.nil
  simp only [fs,Kd.value,puts,Act.put,List.setIfInBounds_toArray,List.set_cons_zero,List.set_cons_succ]
  have HX5:Hid (Ext w w5):=Lib.hid hx_
  have HB1_5:Hid (Blk w5 (w.heap.size+1) #[.int .i64 p.w,.int .i64 p.x,.int .i64 p.y,.int .i64 p.z] 22):=Lib.hid (hb_ 0 _ rfl)
  clear hx_ hm_ hne_ hk_ hb_
  go_wp2_with fail
  have gB1_0:=HB1_5.out.cell 0 rfl
  have gB1_1:=HB1_5.out.cell 1 rfl
  have gB1_2:=HB1_5.out.cell 2 rfl
  have gB1_3:=HB1_5.out.cell 3 rfl
  refine bodyPost_ret (v:=.tuple #[.agg #[.int .i64 p.w,.int .i64 p.x,.int .i64 p.y,.int .i64 p.z],.int .i64 0]) (by simp [results,Tryz.results40,go_sem,gB1_0,gB1_1,gB1_2,gB1_3]) rfl ⟨rfl,HX5.out⟩

set_option maxHeartbeats 4000000 in
theorem runt_w1 (v:V3) (N p:Q4) (l:Rat) (r:Nat) (X:Int) (W:Rat) (e:((r*r:Nat):Int)=X) {k:Nat} (w:World) (g:Gd w) (h0:0<r) (h1:r*r<1000000000) (hv:VB k v) (hk:k≤40) (hd:dot3 v v=(X:Rat)) (hl:l=((r:Int):Rat)) (hw:l+v.z=W) (hn:num4 W v.y (-v.x) 0=N) (hwp:0<W) (hp:prim4 N=p) (hi:Q4In p) (hx0:v.x≠0):Calls Tryz.prog 40 #[.agg #[.string (qs v.x),.string (qs v.y),.string (qs v.z)]] w (Ret w (.tuple #[.agg #[.int .i64 p.w,.int .i64 p.x,.int .i64 p.y,.int .i64 p.z],.int .i64 0])):=by
  have HX9:=Lib.hid e
  have H0:=Lib.hid h0
  have H1:=Lib.hid h1
  have HV:=Lib.hid hv
  have HD:=Lib.hid hd
  have HL:=Lib.hid hl
  have HWE:=Lib.hid hw
  have HN:=Lib.hid hn
  have HWP:=Lib.hid hwp
  have HP:=Lib.hid hp
  have HPI:=Lib.hid hi
  have HG:=Lib.hid g
  clear e h0 h1 hv hd hl hw hn hwp hp hi g
  have HLB:=Lib.hid (len_qb HL.out H1.out)
  have HWB:Hid (QB (9+k+1) W):=Lib.hid (HWE.out▸HLB.out.add HV.out.z)
  have hw0:W≠0:=fun e=>absurd e (Rat.ne_of_gt HWP.out)
  have hw0_t:=qs_not0 hw0
  clear hw0
  have hx0_t:=qs_not0 hx0
  clear hx0
  go_enter Tryz.func40,Tryz.ntmps40
  go_wp2_with fail
  refine (vCheck_ok v _ (HG.out.ext (((Ext.refl w).alloc _).alloc _)) (HV.out.mono (by omega))).mono ?_;rintro e w1 ⟨rfl,e1⟩
  have HX1:Hid (Ext w w1):=Lib.hid ((((Ext.refl w).alloc _).alloc _).trans e1)
  have HB0_1:Hid (Blk w1 (w.heap.size) #[.string (qs v.x),.string (qs v.y),.string (qs v.z)] 31):=Lib.hid (Blk.ext ((Blk.new' (w:=_) (cs:=#[.string (qs v.x),.string (qs v.y),.string (qs v.z)]) (t:=31) (by first|rfl|(simp only [World.size_alloc];done)|(simp only [World.size_alloc];omega)|simp)).alloc _) e1)
  have HB1_1:Hid (Blk w1 (w.heap.size+1) #[.int .i64 0,.int .i64 0,.int .i64 0,.int .i64 0] 22):=Lib.hid (Blk.ext (Blk.new' (w:=_) (cs:=#[.int .i64 0,.int .i64 0,.int .i64 0,.int .i64 0]) (t:=22) (by first|rfl|(simp only [World.size_alloc];done)|(simp only [World.size_alloc];omega)|simp)) e1)
  have HGEB0:Hid (w.heap.size≤w.heap.size):=Lib.hid (by first|omega|(simp only [];omega)|(simp;omega))
  have HGEB1:Hid (w.heap.size≤w.heap.size+1):=Lib.hid (by first|omega|(simp only [];omega)|(simp;omega))
  clear e1
  have c0_0:=HB0_1.out.cell 0 rfl
  have c0_1:=HB0_1.out.cell 1 rfl
  have c0_2:=HB0_1.out.cell 2 rfl
  go_wp2_with fail
  refine (rlen_c v l r X HX9.out _ (HG.out.ext HX1.out) H0.out H1.out HV.out hk HD.out HL.out).mono ?_;rintro e w2 ⟨rfl,e2⟩
  have HX2:Hid (Ext w w2):=Lib.hid (HX1.out.trans e2)
  have HB0_2:=Lib.hid (Blk.ext HB0_1.out e2)
  have HB1_2:=Lib.hid (Blk.ext HB1_1.out e2)
  clear e2 c0_0 c0_1 c0_2
  have c0_2:=HB0_2.out.cell 2 rfl
  go_wp2_with fail
  refine (radd_as l v.z W HWE.out _ (HG.out.ext HX2.out) HLB.out HV.out.z (by omega)).mono ?_;rintro e w3 ⟨rfl,e3⟩
  have HX3:Hid (Ext w w3):=Lib.hid (HX2.out.trans e3)
  have HB0_3:=Lib.hid (Blk.ext HB0_2.out e3)
  have HB1_3:=Lib.hid (Blk.ext HB1_2.out e3)
  clear e3 c0_2
  go_wp2_with fail
  refine wp_name (fun W=>Ext w W∧Blk W (w.heap.size) #[.string (qs v.x),.string (qs v.y),.string (qs v.z)] 31∧Blk W (w.heap.size+1) #[.int .i64 0,.int .i64 0,.int .i64 0,.int .i64 0] 22) ⟨HX3.out,HB0_3.out,HB1_3.out⟩ ?_
  rintro w4 ⟨e4,bB0_4,bB1_4⟩
  have HX4:=Lib.hid e4;have HB0_4:=Lib.hid bB0_4;have HB1_4:=Lib.hid bB1_4
  clear e4 bB0_4 bB1_4
  refine region_lin_s (X:=w) [⟨w.heap.size+1,#[.int .i64 0,.int .i64 0,.int .i64 0,.int .i64 0],#[.int .i64 p.w,.int .i64 p.x,.int .i64 p.y,.int .i64 p.z],22⟩] [.val (.string (qs W)),.val (.pointer (some ⟨w.heap.size,1,none⟩)),.val (.string (qs v.y)),.val (.pointer (some ⟨w.heap.size,0,none⟩)),.val (.string (qs v.x)),.val (.string (qs (-v.x))),.val (.agg #[.string (qs W),.string (qs v.y),.string (qs (-v.x)),.string ⟨#[48]⟩]),.val (.tuple #[.agg #[.int .i64 p.w,.int .i64 p.x,.int .i64 p.y,.int .i64 p.z],.int .i64 0]),.val (.agg #[.int .i64 p.w,.int .i64 p.x,.int .i64 p.y,.int .i64 p.z]),.val (.int .i64 0),.st 0,.val (.int .i64 0)] (by kernel_rfl) (by kernel_rfl) (by kernel_rfl) HX4.out.drew (List.forall_mem_cons.2 ⟨⟨HGEB1.out,HB1_4.out.drew⟩,(fun _ h=>by cases h)⟩) dis1 ?_ (fun g4 w5 hx_ hk_ hb_ hm_ hne_=>?_)
  · skip
    refine RnL.cons (fun g4 A_ W_ hs_=>?_) ?_
    · have q7_:=(hs_.old 7 (by kernel_rfl):A_.tmps[7]?.getD undef = .string (qs W))
      refine Rn.val fun K_ hK_=>?_
      go_simp
      exact hK_.out _ (Ext.refl _)
    refine RnL.cons (fun g4 A_ W_ hs_=>?_) ?_
    · have q1_:=(hs_.old 1 (by kernel_rfl):A_.tmps[1]?.getD undef = .pointer (some ⟨w.heap.size,0,none⟩))
      refine Rn.val fun K_ hK_=>?_
      go_simp
      exact hK_.out _ (Ext.refl _)
    refine RnL.cons (fun g4 A_ W_ hs_=>?_) ?_
    · have q45_:=hs_.val 1 rfl rfl rfl
      have cB0_1:=((hs_.keep (fm2 (show w.heap.size+1≠w.heap.size from by first|omega|(simp only [];omega)|(simp;omega)) fm0) HB0_4.out.drew)).cell 1 rfl
      refine Rn.val fun K_ hK_=>?_
      go_simp
      exact hK_.out _ (Ext.refl _)
    refine RnL.cons (fun g4 A_ W_ hs_=>?_) ?_
    · have q1_:=(hs_.old 1 (by kernel_rfl):A_.tmps[1]?.getD undef = .pointer (some ⟨w.heap.size,0,none⟩))
      refine Rn.val fun K_ hK_=>?_
      go_simp
      exact hK_.out _ (Ext.refl _)
    refine RnL.cons (fun g4 A_ W_ hs_=>?_) ?_
    · have q47_:=hs_.val 3 rfl rfl rfl
      have cB0_0:=((hs_.keep (fm2 (show w.heap.size+1≠w.heap.size from by first|omega|(simp only [];omega)|(simp;omega)) fm0) HB0_4.out.drew)).cell 0 rfl
      refine Rn.val fun K_ hK_=>?_
      go_simp
      exact hK_.out _ (Ext.refl _)
    refine RnL.cons (fun g4 A_ W_ hs_=>?_) ?_
    · have q48_:=hs_.val 4 rfl rfl rfl
      refine Rn.val fun K_ hK_=>?_
      go_simp
      refine (rneg_c v.x _ HV.out.x (by omega)).mono ?_;rintro e W9_ ⟨rfl,e9_⟩;exact hK_.out _ e9_
    refine RnL.cons (fun g4 A_ W_ hs_=>?_) ?_
    · have q44_:=hs_.val 0 rfl rfl rfl
      have q46_:=hs_.val 2 rfl rfl rfl
      have q49_:=hs_.val 5 rfl rfl rfl
      refine Rn.val fun K_ hK_=>?_
      go_simp
      exact hK_.out _ (Ext.refl _)
    refine RnL.cons (fun g4 A_ W_ hs_=>?_) ?_
    · have q50_:=hs_.val 6 rfl rfl rfl
      refine Rn.val fun K_ hK_=>?_
      go_simp
      refine (rwhole0_in W v.y (-v.x) N p _ (HG.out.ext hs_.1) (HWB.out.mono (by omega)) (HV.out.y.mono (by omega)) (HV.out.x.neg.mono (by omega)) HN.out HWP.out HP.out HPI.out).mono ?_;rintro e W9_ ⟨rfl,e9_⟩;exact hK_.out _ e9_
    refine RnL.cons (fun g4 A_ W_ hs_=>?_) ?_
    · have q51_:=hs_.val 7 rfl rfl rfl
      refine Rn.val fun K_ hK_=>?_
      go_simp
      exact hK_.out _ (Ext.refl _)
    refine RnL.cons (fun g4 A_ W_ hs_=>?_) ?_
    · have q51_:=hs_.val 7 rfl rfl rfl
      refine Rn.val fun K_ hK_=>?_
      go_simp
      exact hK_.out _ (Ext.refl _)
    refine RnL.cons (fun g4 A_ W_ hs_=>?_) ?_
    · have q2_:=(hs_.old 2 (by kernel_rfl):A_.tmps[2]?.getD undef = .pointer (some ⟨w.heap.size+1,0,none⟩))
      have q52_:=hs_.val 8 rfl rfl rfl
      refine Rn.st (n:=0) rfl fun hB0 K_ hK_=>?_
      have hB:Blk W_ (w.heap.size+1) #[.int .i64 0,.int .i64 0,.int .i64 0,.int .i64 0] 22:=hB0;clear hB0
      have c_0:=hB.cell 0 rfl;have f_0:=hB.free 0
      have c_1:=hB.cell 1 rfl;have f_1:=hB.free 1
      have c_2:=hB.cell 2 rfl;have f_2:=hB.free 2
      have c_3:=hB.cell 3 rfl;have f_3:=hB.free 3
      have HB:=Lib.hid hB;clear hB
      go_simp
      exact hK_.out _ (((((Only.refl _ _).set 0 _).set 1 _).set 2 _).set 3 _) ((((HB.out.set 0 _).set 1 _).set 2 _).set 3 _)
    refine RnL.cons (fun g4 A_ W_ hs_=>?_) ?_
    · have q53_:=hs_.val 9 rfl rfl rfl
      refine Rn.val fun K_ hK_=>?_
      go_simp
      exact hK_.out _ (Ext.refl _)
    exact RnL.nil
  simp only [fs,Kd.value,puts,Act.put,List.setIfInBounds_toArray,List.set_cons_zero,List.set_cons_succ]
  have HX5:Hid (Ext w w5):=Lib.hid hx_
  have HB1_5:Hid (Blk w5 (w.heap.size+1) #[.int .i64 p.w,.int .i64 p.x,.int .i64 p.y,.int .i64 p.z] 22):=Lib.hid (hb_ 0 _ rfl)
  clear hx_ hm_ hne_ hk_ hb_
  go_wp2_with fail
  have gB1_0:=HB1_5.out.cell 0 rfl
  have gB1_1:=HB1_5.out.cell 1 rfl
  have gB1_2:=HB1_5.out.cell 2 rfl
  have gB1_3:=HB1_5.out.cell 3 rfl
  refine bodyPost_ret (v:=.tuple #[.agg #[.int .i64 p.w,.int .i64 p.x,.int .i64 p.y,.int .i64 p.z],.int .i64 0]) (by simp [results,Tryz.results40,go_sem,gB1_0,gB1_1,gB1_2,gB1_3]) rfl ⟨rfl,HX5.out⟩
end Go.Proofs.YtjeimihnoiephaaGreatDoor
