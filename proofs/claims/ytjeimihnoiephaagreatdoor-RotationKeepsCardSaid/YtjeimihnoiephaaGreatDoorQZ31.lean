/- Part 31 of the proof: M13. -/
import Derived.Test.YtjeimihnoiephaaGreatDoorQZ30
set_option maxRecDepth 100000
namespace Go.Proofs.YtjeimihnoiephaaGreatDoor
open Go Go.RowKit
set_option linter.unusedVariables false
set_option maxHeartbeats 2000000 in
theorem aof_c (v:V3) (w:World) (g:Gd w):Calls Tryz.prog 87 #[.agg #[.string (qs v.x),.string (qs v.y),.string (qs v.z)]] w (Ret w (.agg #[.string (qs v.x),.string (qs v.y),.string (qs v.z)])):=by
  have HG:=Lib.hid g
  clear g
  go_enter Tryz.func87,Tryz.ntmps87
  go_wp2_with fail
  refine wp_name (fun W=>Ext w W∧Blk W (w.heap.size+1) #[.string (qs v.x),.string (qs v.y),.string (qs v.z)] 119) ⟨(((Ext.refl w).alloc _).alloc _),(Blk.new' (w:=_) (cs:=#[.string (qs v.x),.string (qs v.y),.string (qs v.z)]) (t:=119) (by first|rfl|(simp only [World.size_alloc];done)|(simp only [World.size_alloc];omega)|simp))⟩ ?_
  rintro w1 ⟨e1,bB1_1⟩
  have HX1:=Lib.hid e1;have HB1_1:=Lib.hid bB1_1
  have HGEB1:Hid (w.heap.size≤w.heap.size+1):=Lib.hid (by first|omega|(simp only [];omega)|(simp;omega))
  clear e1 bB1_1
  have gB1_0:=HB1_1.out.cell 0 rfl
  have gB1_1:=HB1_1.out.cell 1 rfl
  have gB1_2:=HB1_1.out.cell 2 rfl
  refine bodyPost_ret (v:=.agg #[.string (qs v.x),.string (qs v.y),.string (qs v.z)]) (by simp [results,Tryz.results87,go_sem,gB1_0,gB1_1,gB1_2]) rfl ⟨rfl,HX1.out⟩

set_option maxHeartbeats 4000000 in
theorem arows_c (r1 r2 r3 s:V3) (w:World) (g:Gd w):Calls Tryz.prog 85 #[.agg #[.string (qs r1.x),.string (qs r1.y),.string (qs r1.z),.string (qs r2.x),.string (qs r2.y),.string (qs r2.z),.string (qs r3.x),.string (qs r3.y),.string (qs r3.z),.string (qs s.x),.string (qs s.y),.string (qs s.z)]] w (Ret w (.agg #[.string (qs r1.x),.string (qs r1.y),.string (qs r1.z),.string (qs r2.x),.string (qs r2.y),.string (qs r2.z),.string (qs r3.x),.string (qs r3.y),.string (qs r3.z)])):=by
  have HG:=Lib.hid g
  clear g
  go_enter Tryz.func85,Tryz.ntmps85
  go_wp2_with fail
  refine wp_name (fun W=>Ext w W∧Blk W (w.heap.size) #[.string (qs r1.x),.string (qs r1.y),.string (qs r1.z),.string (qs r2.x),.string (qs r2.y),.string (qs r2.z),.string (qs r3.x),.string (qs r3.y),.string (qs r3.z),.string (qs s.x),.string (qs s.y),.string (qs s.z)] 66∧Blk W (w.heap.size+1) #[.string ⟨#[]⟩,.string ⟨#[]⟩,.string ⟨#[]⟩,.string ⟨#[]⟩,.string ⟨#[]⟩,.string ⟨#[]⟩,.string ⟨#[]⟩,.string ⟨#[]⟩,.string ⟨#[]⟩] 121) ⟨(((Ext.refl w).alloc _).alloc _),((Blk.new' (w:=_) (cs:=#[.string (qs r1.x),.string (qs r1.y),.string (qs r1.z),.string (qs r2.x),.string (qs r2.y),.string (qs r2.z),.string (qs r3.x),.string (qs r3.y),.string (qs r3.z),.string (qs s.x),.string (qs s.y),.string (qs s.z)]) (t:=66) (by first|rfl|(simp only [World.size_alloc];done)|(simp only [World.size_alloc];omega)|simp)).alloc _),(Blk.new' (w:=_) (cs:=#[.string ⟨#[]⟩,.string ⟨#[]⟩,.string ⟨#[]⟩,.string ⟨#[]⟩,.string ⟨#[]⟩,.string ⟨#[]⟩,.string ⟨#[]⟩,.string ⟨#[]⟩,.string ⟨#[]⟩]) (t:=121) (by first|rfl|(simp only [World.size_alloc];done)|(simp only [World.size_alloc];omega)|simp))⟩ ?_
  rintro w1 ⟨e1,bB0_1,bB1_1⟩
  have HX1:=Lib.hid e1;have HB0_1:=Lib.hid bB0_1;have HB1_1:=Lib.hid bB1_1
  have HGEB0:Hid (w.heap.size≤w.heap.size):=Lib.hid (by first|omega|(simp only [];omega)|(simp;omega))
  have HGEB1:Hid (w.heap.size≤w.heap.size+1):=Lib.hid (by first|omega|(simp only [];omega)|(simp;omega))
  clear e1 bB0_1 bB1_1
  refine region_lin_s (X:=w) [⟨w.heap.size+1,#[.string ⟨#[]⟩,.string ⟨#[]⟩,.string ⟨#[]⟩,.string ⟨#[]⟩,.string ⟨#[]⟩,.string ⟨#[]⟩,.string ⟨#[]⟩,.string ⟨#[]⟩,.string ⟨#[]⟩],#[.string (qs r1.x),.string (qs r1.y),.string (qs r1.z),.string (qs r2.x),.string (qs r2.y),.string (qs r2.z),.string (qs r3.x),.string (qs r3.y),.string (qs r3.z)],121⟩] [.val (.pointer (some ⟨w.heap.size,0,none⟩)),.val (.pointer (some ⟨w.heap.size,0,none⟩)),.val (.agg #[.string (qs r1.x),.string (qs r1.y),.string (qs r1.z)]),.val (.agg #[.string (qs r1.x),.string (qs r1.y),.string (qs r1.z)]),.val (.pointer (some ⟨w.heap.size,0,none⟩)),.val (.pointer (some ⟨w.heap.size,3,none⟩)),.val (.agg #[.string (qs r2.x),.string (qs r2.y),.string (qs r2.z)]),.val (.agg #[.string (qs r2.x),.string (qs r2.y),.string (qs r2.z)]),.val (.pointer (some ⟨w.heap.size,0,none⟩)),.val (.pointer (some ⟨w.heap.size,6,none⟩)),.val (.agg #[.string (qs r3.x),.string (qs r3.y),.string (qs r3.z)]),.val (.agg #[.string (qs r3.x),.string (qs r3.y),.string (qs r3.z)]),.val (.agg #[.string (qs r1.x),.string (qs r1.y),.string (qs r1.z),.string (qs r2.x),.string (qs r2.y),.string (qs r2.z),.string (qs r3.x),.string (qs r3.y),.string (qs r3.z)]),.st 0] (by kernel_rfl) (by kernel_rfl) (by kernel_rfl) HX1.out.drew (List.forall_mem_cons.2 ⟨⟨HGEB1.out,HB1_1.out.drew⟩,(fun _ h=>by cases h)⟩) dis1 ?_ (fun g1 w2 hx_ hk_ hb_ hm_ hne_=>?_)
  · skip
    refine RnL.cons (fun g1 A_ W_ hs_=>?_) ?_
    · have q1_:=(hs_.old 1 (by kernel_rfl):A_.tmps[1]?.getD undef = .pointer (some ⟨w.heap.size,0,none⟩))
      refine Rn.val fun K_ hK_=>?_
      go_simp
      exact hK_.out _ (Ext.refl _)
    refine RnL.cons (fun g1 A_ W_ hs_=>?_) ?_
    · have q3_:=hs_.val 0 rfl rfl rfl
      refine Rn.val fun K_ hK_=>?_
      go_simp
      exact hK_.out _ (Ext.refl _)
    refine RnL.cons (fun g1 A_ W_ hs_=>?_) ?_
    · have q4_:=hs_.val 1 rfl rfl rfl
      have cB0_0:=((hs_.keep (fm2 (show w.heap.size+1≠w.heap.size from by first|omega|(simp only [];omega)|(simp;omega)) fm0) HB0_1.out.drew)).cell 0 rfl
      have cB0_1:=((hs_.keep (fm2 (show w.heap.size+1≠w.heap.size from by first|omega|(simp only [];omega)|(simp;omega)) fm0) HB0_1.out.drew)).cell 1 rfl
      have cB0_2:=((hs_.keep (fm2 (show w.heap.size+1≠w.heap.size from by first|omega|(simp only [];omega)|(simp;omega)) fm0) HB0_1.out.drew)).cell 2 rfl
      refine Rn.val fun K_ hK_=>?_
      go_simp
      exact hK_.out _ (Ext.refl _)
    refine RnL.cons (fun g1 A_ W_ hs_=>?_) ?_
    · have q5_:=hs_.val 2 rfl rfl rfl
      refine Rn.val fun K_ hK_=>?_
      go_simp
      refine (aof_c r1 _ (HG.out.ext hs_.1)).mono ?_;rintro e W9_ ⟨rfl,e9_⟩;exact hK_.out _ e9_
    refine RnL.cons (fun g1 A_ W_ hs_=>?_) ?_
    · have q1_:=(hs_.old 1 (by kernel_rfl):A_.tmps[1]?.getD undef = .pointer (some ⟨w.heap.size,0,none⟩))
      refine Rn.val fun K_ hK_=>?_
      go_simp
      exact hK_.out _ (Ext.refl _)
    refine RnL.cons (fun g1 A_ W_ hs_=>?_) ?_
    · have q7_:=hs_.val 4 rfl rfl rfl
      refine Rn.val fun K_ hK_=>?_
      go_simp
      exact hK_.out _ (Ext.refl _)
    refine RnL.cons (fun g1 A_ W_ hs_=>?_) ?_
    · have q8_:=hs_.val 5 rfl rfl rfl
      have cB0_3:=((hs_.keep (fm2 (show w.heap.size+1≠w.heap.size from by first|omega|(simp only [];omega)|(simp;omega)) fm0) HB0_1.out.drew)).cell 3 rfl
      have cB0_4:=((hs_.keep (fm2 (show w.heap.size+1≠w.heap.size from by first|omega|(simp only [];omega)|(simp;omega)) fm0) HB0_1.out.drew)).cell 4 rfl
      have cB0_5:=((hs_.keep (fm2 (show w.heap.size+1≠w.heap.size from by first|omega|(simp only [];omega)|(simp;omega)) fm0) HB0_1.out.drew)).cell 5 rfl
      refine Rn.val fun K_ hK_=>?_
      go_simp
      exact hK_.out _ (Ext.refl _)
    refine RnL.cons (fun g1 A_ W_ hs_=>?_) ?_
    · have q9_:=hs_.val 6 rfl rfl rfl
      refine Rn.val fun K_ hK_=>?_
      go_simp
      refine (aof_c r2 _ (HG.out.ext hs_.1)).mono ?_;rintro e W9_ ⟨rfl,e9_⟩;exact hK_.out _ e9_
    refine RnL.cons (fun g1 A_ W_ hs_=>?_) ?_
    · have q1_:=(hs_.old 1 (by kernel_rfl):A_.tmps[1]?.getD undef = .pointer (some ⟨w.heap.size,0,none⟩))
      refine Rn.val fun K_ hK_=>?_
      go_simp
      exact hK_.out _ (Ext.refl _)
    refine RnL.cons (fun g1 A_ W_ hs_=>?_) ?_
    · have q11_:=hs_.val 8 rfl rfl rfl
      refine Rn.val fun K_ hK_=>?_
      go_simp
      exact hK_.out _ (Ext.refl _)
    refine RnL.cons (fun g1 A_ W_ hs_=>?_) ?_
    · have q12_:=hs_.val 9 rfl rfl rfl
      have cB0_6:=((hs_.keep (fm2 (show w.heap.size+1≠w.heap.size from by first|omega|(simp only [];omega)|(simp;omega)) fm0) HB0_1.out.drew)).cell 6 rfl
      have cB0_7:=((hs_.keep (fm2 (show w.heap.size+1≠w.heap.size from by first|omega|(simp only [];omega)|(simp;omega)) fm0) HB0_1.out.drew)).cell 7 rfl
      have cB0_8:=((hs_.keep (fm2 (show w.heap.size+1≠w.heap.size from by first|omega|(simp only [];omega)|(simp;omega)) fm0) HB0_1.out.drew)).cell 8 rfl
      refine Rn.val fun K_ hK_=>?_
      go_simp
      exact hK_.out _ (Ext.refl _)
    refine RnL.cons (fun g1 A_ W_ hs_=>?_) ?_
    · have q13_:=hs_.val 10 rfl rfl rfl
      refine Rn.val fun K_ hK_=>?_
      go_simp
      refine (aof_c r3 _ (HG.out.ext hs_.1)).mono ?_;rintro e W9_ ⟨rfl,e9_⟩;exact hK_.out _ e9_
    refine RnL.cons (fun g1 A_ W_ hs_=>?_) ?_
    · have q6_:=hs_.val 3 rfl rfl rfl
      have q10_:=hs_.val 7 rfl rfl rfl
      have q14_:=hs_.val 11 rfl rfl rfl
      refine Rn.val fun K_ hK_=>?_
      go_simp
      exact hK_.out _ (Ext.refl _)
    refine RnL.cons (fun g1 A_ W_ hs_=>?_) ?_
    · have q2_:=(hs_.old 2 (by kernel_rfl):A_.tmps[2]?.getD undef = .pointer (some ⟨w.heap.size+1,0,none⟩))
      have q15_:=hs_.val 12 rfl rfl rfl
      refine Rn.st (n:=0) rfl fun hB0 K_ hK_=>?_
      have hB:Blk W_ (w.heap.size+1) #[.string ⟨#[]⟩,.string ⟨#[]⟩,.string ⟨#[]⟩,.string ⟨#[]⟩,.string ⟨#[]⟩,.string ⟨#[]⟩,.string ⟨#[]⟩,.string ⟨#[]⟩,.string ⟨#[]⟩] 121:=hB0;clear hB0
      have c_0:=hB.cell 0 rfl;have f_0:=hB.free 0
      have c_1:=hB.cell 1 rfl;have f_1:=hB.free 1
      have c_2:=hB.cell 2 rfl;have f_2:=hB.free 2
      have c_3:=hB.cell 3 rfl;have f_3:=hB.free 3
      have c_4:=hB.cell 4 rfl;have f_4:=hB.free 4
      have c_5:=hB.cell 5 rfl;have f_5:=hB.free 5
      have c_6:=hB.cell 6 rfl;have f_6:=hB.free 6
      have c_7:=hB.cell 7 rfl;have f_7:=hB.free 7
      have c_8:=hB.cell 8 rfl;have f_8:=hB.free 8
      have HB:=Lib.hid hB;clear hB
      go_simp
      exact hK_.out _ ((((((((((Only.refl _ _).set 0 _).set 1 _).set 2 _).set 3 _).set 4 _).set 5 _).set 6 _).set 7 _).set 8 _) (((((((((HB.out.set 0 _).set 1 _).set 2 _).set 3 _).set 4 _).set 5 _).set 6 _).set 7 _).set 8 _)
    exact RnL.nil
  simp only [fs,Kd.value,puts,Act.put,List.setIfInBounds_toArray,List.set_cons_zero,List.set_cons_succ]
  have HX2:Hid (Ext w w2):=Lib.hid hx_
  have HB1_2:Hid (Blk w2 (w.heap.size+1) #[.string (qs r1.x),.string (qs r1.y),.string (qs r1.z),.string (qs r2.x),.string (qs r2.y),.string (qs r2.z),.string (qs r3.x),.string (qs r3.y),.string (qs r3.z)] 121):=Lib.hid (hb_ 0 _ rfl)
  clear hx_ hm_ hne_ hk_ hb_
  go_wp2_with fail
  have gB1_0:=HB1_2.out.cell 0 rfl
  have gB1_1:=HB1_2.out.cell 1 rfl
  have gB1_2:=HB1_2.out.cell 2 rfl
  have gB1_3:=HB1_2.out.cell 3 rfl
  have gB1_4:=HB1_2.out.cell 4 rfl
  have gB1_5:=HB1_2.out.cell 5 rfl
  have gB1_6:=HB1_2.out.cell 6 rfl
  have gB1_7:=HB1_2.out.cell 7 rfl
  have gB1_8:=HB1_2.out.cell 8 rfl
  refine bodyPost_ret (v:=.agg #[.string (qs r1.x),.string (qs r1.y),.string (qs r1.z),.string (qs r2.x),.string (qs r2.y),.string (qs r2.z),.string (qs r3.x),.string (qs r3.y),.string (qs r3.z)]) (by simp [results,Tryz.results85,go_sem,gB1_0,gB1_1,gB1_2,gB1_3,gB1_4,gB1_5,gB1_6,gB1_7,gB1_8]) rfl ⟨rfl,HX2.out⟩

set_option maxHeartbeats 2000000 in
theorem avec_c (v:V3) (w:World) (g:Gd w):Calls Tryz.prog 138 #[.agg #[.string (qs v.x),.string (qs v.y),.string (qs v.z)]] w (Ret w (.agg #[.string (qs v.x),.string (qs v.y),.string (qs v.z)])):=by
  have HG:=Lib.hid g
  clear g
  go_enter Tryz.func138,Tryz.ntmps138
  go_wp2_with fail
  refine wp_name (fun W=>Ext w W∧Blk W (w.heap.size+1) #[.string (qs v.x),.string (qs v.y),.string (qs v.z)] 31) ⟨(((Ext.refl w).alloc _).alloc _),(Blk.new' (w:=_) (cs:=#[.string (qs v.x),.string (qs v.y),.string (qs v.z)]) (t:=31) (by first|rfl|(simp only [World.size_alloc];done)|(simp only [World.size_alloc];omega)|simp))⟩ ?_
  rintro w1 ⟨e1,bB1_1⟩
  have HX1:=Lib.hid e1;have HB1_1:=Lib.hid bB1_1
  have HGEB1:Hid (w.heap.size≤w.heap.size+1):=Lib.hid (by first|omega|(simp only [];omega)|(simp;omega))
  clear e1 bB1_1
  have gB1_0:=HB1_1.out.cell 0 rfl
  have gB1_1:=HB1_1.out.cell 1 rfl
  have gB1_2:=HB1_1.out.cell 2 rfl
  refine bodyPost_ret (v:=.agg #[.string (qs v.x),.string (qs v.y),.string (qs v.z)]) (by simp [results,Tryz.results138,go_sem,gB1_0,gB1_1,gB1_2]) rfl ⟨rfl,HX1.out⟩

set_option maxHeartbeats 4000000 in
theorem adot_c (a b:V3) {k m:Nat} (w:World) (g:Gd w) (ha:VB k a) (hb:VB m b) (hk:k≤100) (hm:m≤100):Calls Tryz.prog 141 #[.agg #[.string (qs a.x),.string (qs a.y),.string (qs a.z)],.agg #[.string (qs b.x),.string (qs b.y),.string (qs b.z)]] w (Ret w (.string (qs (a.x*b.x+a.y*b.y+a.z*b.z)))):=by
  have HA:=Lib.hid ha
  have HB:=Lib.hid hb
  have HG:=Lib.hid g
  clear ha hb g
  go_enter Tryz.func141,Tryz.ntmps141
  go_wp2_with fail
  refine wp_name (fun W=>Ext w W∧Blk W (w.heap.size) #[.string (qs a.x),.string (qs a.y),.string (qs a.z)] 119∧Blk W (w.heap.size+1) #[.string (qs b.x),.string (qs b.y),.string (qs b.z)] 119) ⟨(((Ext.refl w).alloc _).alloc _),((Blk.new' (w:=_) (cs:=#[.string (qs a.x),.string (qs a.y),.string (qs a.z)]) (t:=119) (by first|rfl|(simp only [World.size_alloc];done)|(simp only [World.size_alloc];omega)|simp)).alloc _),(Blk.new' (w:=_) (cs:=#[.string (qs b.x),.string (qs b.y),.string (qs b.z)]) (t:=119) (by first|rfl|(simp only [World.size_alloc];done)|(simp only [World.size_alloc];omega)|simp))⟩ ?_
  rintro w1 ⟨e1,bB0_1,bB1_1⟩
  have HX1:=Lib.hid e1;have HB0_1:=Lib.hid bB0_1;have HB1_1:=Lib.hid bB1_1
  have HGEB0:Hid (w.heap.size≤w.heap.size):=Lib.hid (by first|omega|(simp only [];omega)|(simp;omega))
  have HGEB1:Hid (w.heap.size≤w.heap.size+1):=Lib.hid (by first|omega|(simp only [];omega)|(simp;omega))
  clear e1 bB0_1 bB1_1
  refine region_lin [.val (.pointer (some ⟨w.heap.size,0,none⟩)),.val (.string (qs a.x)),.val (.pointer (some ⟨w.heap.size+1,0,none⟩)),.val (.string (qs b.x)),.val (.string (qs (a.x*b.x))),.val (.pointer (some ⟨w.heap.size,1,none⟩)),.val (.string (qs a.y)),.val (.pointer (some ⟨w.heap.size+1,1,none⟩)),.val (.string (qs b.y)),.val (.string (qs (a.y*b.y))),.val (.pointer (some ⟨w.heap.size,2,none⟩)),.val (.string (qs a.z)),.val (.pointer (some ⟨w.heap.size+1,2,none⟩)),.val (.string (qs b.z)),.val (.string (qs (a.z*b.z))),.mem (fun b_ => .slice (some ⟨b_,0,none⟩) 3 3) #[.string (qs (a.x*b.x)),.string (qs (a.y*b.y)),.string (qs (a.z*b.z))] 29 Option.none,.val (.string (qs (a.x*b.x+a.y*b.y+a.z*b.z))),.val (.string (qs (a.x*b.x+a.y*b.y+a.z*b.z)))] (by kernel_rfl) (by kernel_rfl) (by kernel_rfl) ?_ (fun g1 w2 hx_ hm_ hne_=>?_)
  · skip
    refine RnL.cons (fun g1 A_ W_ hs_=>?_) ?_
    · have q2_:=(hs_.old 2 (by kernel_rfl):A_.tmps[2]?.getD undef = .pointer (some ⟨w.heap.size,0,none⟩))
      refine Rn.val fun K_ hK_=>?_
      go_simp
      exact hK_.out _ (Ext.refl _)
    refine RnL.cons (fun g1 A_ W_ hs_=>?_) ?_
    · have q5_:=hs_.val 0 rfl rfl rfl
      have cB0_0:=((HB0_1.out.drew.ext hs_.1)).cell 0 rfl
      refine Rn.val fun K_ hK_=>?_
      go_simp
      exact hK_.out _ (Ext.refl _)
    refine RnL.cons (fun g1 A_ W_ hs_=>?_) ?_
    · have q3_:=(hs_.old 3 (by kernel_rfl):A_.tmps[3]?.getD undef = .pointer (some ⟨w.heap.size+1,0,none⟩))
      refine Rn.val fun K_ hK_=>?_
      go_simp
      exact hK_.out _ (Ext.refl _)
    refine RnL.cons (fun g1 A_ W_ hs_=>?_) ?_
    · have q7_:=hs_.val 2 rfl rfl rfl
      have cB1_0:=((HB1_1.out.drew.ext hs_.1)).cell 0 rfl
      refine Rn.val fun K_ hK_=>?_
      go_simp
      exact hK_.out _ (Ext.refl _)
    refine RnL.cons (fun g1 A_ W_ hs_=>?_) ?_
    · have q6_:=hs_.val 1 rfl rfl rfl
      have q8_:=hs_.val 3 rfl rfl rfl
      refine Rn.val fun K_ hK_=>?_
      go_simp
      refine (rmul_c a.x b.x _ (HG.out.ext (HX1.out.drew.trans hs_.1)) HA.out.x HB.out.x (by omega) (by omega)).mono ?_;rintro e W9_ ⟨rfl,e9_⟩;exact hK_.out _ e9_
    refine RnL.cons (fun g1 A_ W_ hs_=>?_) ?_
    · have q2_:=(hs_.old 2 (by kernel_rfl):A_.tmps[2]?.getD undef = .pointer (some ⟨w.heap.size,0,none⟩))
      refine Rn.val fun K_ hK_=>?_
      go_simp
      exact hK_.out _ (Ext.refl _)
    refine RnL.cons (fun g1 A_ W_ hs_=>?_) ?_
    · have q10_:=hs_.val 5 rfl rfl rfl
      have cB0_1:=((HB0_1.out.drew.ext hs_.1)).cell 1 rfl
      refine Rn.val fun K_ hK_=>?_
      go_simp
      exact hK_.out _ (Ext.refl _)
    refine RnL.cons (fun g1 A_ W_ hs_=>?_) ?_
    · have q3_:=(hs_.old 3 (by kernel_rfl):A_.tmps[3]?.getD undef = .pointer (some ⟨w.heap.size+1,0,none⟩))
      refine Rn.val fun K_ hK_=>?_
      go_simp
      exact hK_.out _ (Ext.refl _)
    refine RnL.cons (fun g1 A_ W_ hs_=>?_) ?_
    · have q12_:=hs_.val 7 rfl rfl rfl
      have cB1_1:=((HB1_1.out.drew.ext hs_.1)).cell 1 rfl
      refine Rn.val fun K_ hK_=>?_
      go_simp
      exact hK_.out _ (Ext.refl _)
    refine RnL.cons (fun g1 A_ W_ hs_=>?_) ?_
    · have q11_:=hs_.val 6 rfl rfl rfl
      have q13_:=hs_.val 8 rfl rfl rfl
      refine Rn.val fun K_ hK_=>?_
      go_simp
      refine (rmul_c a.y b.y _ (HG.out.ext (HX1.out.drew.trans hs_.1)) HA.out.y HB.out.y (by omega) (by omega)).mono ?_;rintro e W9_ ⟨rfl,e9_⟩;exact hK_.out _ e9_
    refine RnL.cons (fun g1 A_ W_ hs_=>?_) ?_
    · have q2_:=(hs_.old 2 (by kernel_rfl):A_.tmps[2]?.getD undef = .pointer (some ⟨w.heap.size,0,none⟩))
      refine Rn.val fun K_ hK_=>?_
      go_simp
      exact hK_.out _ (Ext.refl _)
    refine RnL.cons (fun g1 A_ W_ hs_=>?_) ?_
    · have q15_:=hs_.val 10 rfl rfl rfl
      have cB0_2:=((HB0_1.out.drew.ext hs_.1)).cell 2 rfl
      refine Rn.val fun K_ hK_=>?_
      go_simp
      exact hK_.out _ (Ext.refl _)
    refine RnL.cons (fun g1 A_ W_ hs_=>?_) ?_
    · have q3_:=(hs_.old 3 (by kernel_rfl):A_.tmps[3]?.getD undef = .pointer (some ⟨w.heap.size+1,0,none⟩))
      refine Rn.val fun K_ hK_=>?_
      go_simp
      exact hK_.out _ (Ext.refl _)
    refine RnL.cons (fun g1 A_ W_ hs_=>?_) ?_
    · have q17_:=hs_.val 12 rfl rfl rfl
      have cB1_2:=((HB1_1.out.drew.ext hs_.1)).cell 2 rfl
      refine Rn.val fun K_ hK_=>?_
      go_simp
      exact hK_.out _ (Ext.refl _)
    refine RnL.cons (fun g1 A_ W_ hs_=>?_) ?_
    · have q16_:=hs_.val 11 rfl rfl rfl
      have q18_:=hs_.val 13 rfl rfl rfl
      refine Rn.val fun K_ hK_=>?_
      go_simp
      refine (rmul_c a.z b.z _ (HG.out.ext (HX1.out.drew.trans hs_.1)) HA.out.z HB.out.z (by omega) (by omega)).mono ?_;rintro e W9_ ⟨rfl,e9_⟩;exact hK_.out _ e9_
    refine RnL.cons (fun g1 A_ W_ hs_=>?_) ?_
    · have q9_:=hs_.val 4 rfl rfl rfl
      have q14_:=hs_.val 9 rfl rfl rfl
      have q19_:=hs_.val 14 rfl rfl rfl
      refine Rn.mem fun K_ hK_=>?_
      go_simp
      exact hK_.out
    refine RnL.cons (fun g1 A_ W_ hs_=>?_) ?_
    · have q20_:=(hs_.mem 15 rfl rfl rfl).1
      refine Rn.val fun K_ hK_=>?_
      go_simp
      refine (sum3_c (a.x*b.x) (a.y*b.y) (a.z*b.z) (g1 15) _ (HG.out.ext (HX1.out.drew.trans hs_.1)) (HA.out.x.mul HB.out.x) (HA.out.y.mul HB.out.y) (HA.out.z.mul HB.out.z) ((hs_.mem 15 rfl rfl rfl).2.2 rfl) (by omega)).mono ?_;rintro e W9_ ⟨rfl,e9_⟩;exact hK_.out _ e9_
    refine RnL.cons (fun g1 A_ W_ hs_=>?_) ?_
    · have q21_:=hs_.val 16 rfl rfl rfl
      refine Rn.val fun K_ hK_=>?_
      go_simp
      exact hK_.out _ (Ext.refl _)
    exact RnL.nil
  simp only [fs,Kd.value,puts,Act.put,List.setIfInBounds_toArray,List.set_cons_zero,List.set_cons_succ,Nat.reduceAdd]
  have HX2:Hid (Ext w w2):=Lib.hid (HX1.out.drew.trans hx_)
  have HB2_2:Hid (Blk w2 (g1 15) #[.string (qs (a.x*b.x)),.string (qs (a.y*b.y)),.string (qs (a.z*b.z))] 29):=Lib.hid (hm_ 15 _ _ _ _ rfl).2;have HGEB2:Hid (w.heap.size≤g1 15):=Lib.hid (Nat.le_trans HX1.out.size (hm_ 15 _ _ _ _ rfl).1)
  clear hx_ hm_ hne_
  generalize g1 15=i2 at *
  clear g1
  go_wp2
  go_ret
  exact ⟨rfl,HX2.out⟩

set_option maxHeartbeats 2000000 in
theorem gap_0 (r1 r2 r3 p:V3) {k m:Nat} (kg kt:Nat) {ty1 ty2:TypeId} (w:World) (g:Gd w) (hg:Blk w kg #[.string (qs r1.x),.string (qs r1.y),.string (qs r1.z),.string (qs r2.x),.string (qs r2.y),.string (qs r2.z),.string (qs r3.x),.string (qs r3.y),.string (qs r3.z)] ty1) (ht:Blk w kt #[.string (qs p.x),.string (qs p.y),.string (qs p.z)] ty2) (h1:VB k r1) (h2:VB k r2) (h3:VB k r3) (hp:VB m p) (hk:k≤100) (hm:m≤100):Calls Tryz.prog 140 #[.int .i64 0,.pointer (some ⟨kg,0,none⟩),.pointer (some ⟨kt,0,none⟩)] w (Ret w (.string (qs (dot3 r1 p)))):=by
  have HCG:=Lib.hid hg
  have HCT:=Lib.hid ht
  have H1:=Lib.hid h1
  have H2:=Lib.hid h2
  have H3:=Lib.hid h3
  have HP:=Lib.hid hp
  have HG:=Lib.hid g
  clear hg ht h1 h2 h3 hp g
  go_enter Tryz.func140,Tryz.ntmps140
  go_wp2_with fail
  refine wp_name (fun W=>Ext w W∧Blk W (kg) #[.string (qs r1.x),.string (qs r1.y),.string (qs r1.z),.string (qs r2.x),.string (qs r2.y),.string (qs r2.z),.string (qs r3.x),.string (qs r3.y),.string (qs r3.z)] ty1∧Blk W (kt) #[.string (qs p.x),.string (qs p.y),.string (qs p.z)] ty2) ⟨(Ext.refl w),HCG.out,HCT.out⟩ ?_
  rintro w1 ⟨e1,bBG_1,bBT_1⟩
  have HX1:=Lib.hid e1;have HBG_1:=Lib.hid bBG_1;have HBT_1:=Lib.hid bBT_1
  clear e1 bBG_1 bBT_1
  refine region_lin [.val (.int .i64 0),.val (.pointer (some ⟨kg,0,none⟩)),.val (.agg #[.string (qs r1.x),.string (qs r1.y),.string (qs r1.z)]),.val (.agg #[.string (qs p.x),.string (qs p.y),.string (qs p.z)]),.val (.string (qs (dot3 r1 p))),.val (.string (qs (dot3 r1 p)))] (by kernel_rfl) (by kernel_rfl) (by kernel_rfl) ?_ (fun g1 w2 hx_ hm_ hne_=>?_)
  · skip
    refine RnL.cons (fun g1 A_ W_ hs_=>?_) ?_
    · have q0_:=(hs_.old 0 (by kernel_rfl):A_.tmps[0]?.getD undef = .int .i64 0)
      refine Rn.val fun K_ hK_=>?_
      go_simp
      exact hK_.out _ (Ext.refl _)
    refine RnL.cons (fun g1 A_ W_ hs_=>?_) ?_
    · have q1_:=(hs_.old 1 (by kernel_rfl):A_.tmps[1]?.getD undef = .pointer (some ⟨kg,0,none⟩))
      have q5_:=hs_.val 0 rfl rfl rfl
      refine Rn.val fun K_ hK_=>?_
      go_simp
      exact hK_.out _ (Ext.refl _)
    refine RnL.cons (fun g1 A_ W_ hs_=>?_) ?_
    · have q6_:=hs_.val 1 rfl rfl rfl
      have cBG_0:=((HBG_1.out.drew.ext hs_.1)).cell 0 rfl
      have cBG_1:=((HBG_1.out.drew.ext hs_.1)).cell 1 rfl
      have cBG_2:=((HBG_1.out.drew.ext hs_.1)).cell 2 rfl
      refine Rn.val fun K_ hK_=>?_
      go_simp
      exact hK_.out _ (Ext.refl _)
    refine RnL.cons (fun g1 A_ W_ hs_=>?_) ?_
    · have q2_:=(hs_.old 2 (by kernel_rfl):A_.tmps[2]?.getD undef = .pointer (some ⟨kt,0,none⟩))
      have cBT_0:=((HBT_1.out.drew.ext hs_.1)).cell 0 rfl
      have cBT_1:=((HBT_1.out.drew.ext hs_.1)).cell 1 rfl
      have cBT_2:=((HBT_1.out.drew.ext hs_.1)).cell 2 rfl
      refine Rn.val fun K_ hK_=>?_
      go_simp
      exact hK_.out _ (Ext.refl _)
    refine RnL.cons (fun g1 A_ W_ hs_=>?_) ?_
    · have q7_:=hs_.val 2 rfl rfl rfl
      have q8_:=hs_.val 3 rfl rfl rfl
      refine Rn.val fun K_ hK_=>?_
      go_simp
      refine (adot_c r1 p _ (HG.out.ext (HX1.out.drew.trans hs_.1)) H1.out HP.out hk hm).mono ?_;rintro e W9_ ⟨rfl,e9_⟩;exact hK_.out _ e9_
    refine RnL.cons (fun g1 A_ W_ hs_=>?_) ?_
    · have q9_:=hs_.val 4 rfl rfl rfl
      refine Rn.val fun K_ hK_=>?_
      go_simp
      exact hK_.out _ (Ext.refl _)
    exact RnL.nil
  simp only [fs,Kd.value,puts,Act.put,List.setIfInBounds_toArray,List.set_cons_zero,List.set_cons_succ]
  have HX2:Hid (Ext w w2):=Lib.hid (HX1.out.drew.trans hx_)
  clear hx_ hm_ hne_
  go_wp2
  go_ret
  exact ⟨rfl,HX2.out⟩

set_option maxHeartbeats 2000000 in
theorem gap_1 (r1 r2 r3 p:V3) {k m:Nat} (kg kt:Nat) {ty1 ty2:TypeId} (w:World) (g:Gd w) (hg:Blk w kg #[.string (qs r1.x),.string (qs r1.y),.string (qs r1.z),.string (qs r2.x),.string (qs r2.y),.string (qs r2.z),.string (qs r3.x),.string (qs r3.y),.string (qs r3.z)] ty1) (ht:Blk w kt #[.string (qs p.x),.string (qs p.y),.string (qs p.z)] ty2) (h1:VB k r1) (h2:VB k r2) (h3:VB k r3) (hp:VB m p) (hk:k≤100) (hm:m≤100):Calls Tryz.prog 140 #[.int .i64 1,.pointer (some ⟨kg,0,none⟩),.pointer (some ⟨kt,0,none⟩)] w (Ret w (.string (qs (dot3 r2 p)))):=by
  have HCG:=Lib.hid hg
  have HCT:=Lib.hid ht
  have H1:=Lib.hid h1
  have H2:=Lib.hid h2
  have H3:=Lib.hid h3
  have HP:=Lib.hid hp
  have HG:=Lib.hid g
  clear hg ht h1 h2 h3 hp g
  go_enter Tryz.func140,Tryz.ntmps140
  go_wp2_with fail
  refine wp_name (fun W=>Ext w W∧Blk W (kg) #[.string (qs r1.x),.string (qs r1.y),.string (qs r1.z),.string (qs r2.x),.string (qs r2.y),.string (qs r2.z),.string (qs r3.x),.string (qs r3.y),.string (qs r3.z)] ty1∧Blk W (kt) #[.string (qs p.x),.string (qs p.y),.string (qs p.z)] ty2) ⟨(Ext.refl w),HCG.out,HCT.out⟩ ?_
  rintro w1 ⟨e1,bBG_1,bBT_1⟩
  have HX1:=Lib.hid e1;have HBG_1:=Lib.hid bBG_1;have HBT_1:=Lib.hid bBT_1
  clear e1 bBG_1 bBT_1
  refine region_lin [.val (.int .i64 1),.val (.pointer (some ⟨kg,3,none⟩)),.val (.agg #[.string (qs r2.x),.string (qs r2.y),.string (qs r2.z)]),.val (.agg #[.string (qs p.x),.string (qs p.y),.string (qs p.z)]),.val (.string (qs (dot3 r2 p))),.val (.string (qs (dot3 r2 p)))] (by kernel_rfl) (by kernel_rfl) (by kernel_rfl) ?_ (fun g1 w2 hx_ hm_ hne_=>?_)
  · skip
    refine RnL.cons (fun g1 A_ W_ hs_=>?_) ?_
    · have q0_:=(hs_.old 0 (by kernel_rfl):A_.tmps[0]?.getD undef = .int .i64 1)
      refine Rn.val fun K_ hK_=>?_
      go_simp
      exact hK_.out _ (Ext.refl _)
    refine RnL.cons (fun g1 A_ W_ hs_=>?_) ?_
    · have q1_:=(hs_.old 1 (by kernel_rfl):A_.tmps[1]?.getD undef = .pointer (some ⟨kg,0,none⟩))
      have q5_:=hs_.val 0 rfl rfl rfl
      refine Rn.val fun K_ hK_=>?_
      go_simp
      exact hK_.out _ (Ext.refl _)
    refine RnL.cons (fun g1 A_ W_ hs_=>?_) ?_
    · have q6_:=hs_.val 1 rfl rfl rfl
      have cBG_3:=((HBG_1.out.drew.ext hs_.1)).cell 3 rfl
      have cBG_4:=((HBG_1.out.drew.ext hs_.1)).cell 4 rfl
      have cBG_5:=((HBG_1.out.drew.ext hs_.1)).cell 5 rfl
      refine Rn.val fun K_ hK_=>?_
      go_simp
      exact hK_.out _ (Ext.refl _)
    refine RnL.cons (fun g1 A_ W_ hs_=>?_) ?_
    · have q2_:=(hs_.old 2 (by kernel_rfl):A_.tmps[2]?.getD undef = .pointer (some ⟨kt,0,none⟩))
      have cBT_0:=((HBT_1.out.drew.ext hs_.1)).cell 0 rfl
      have cBT_1:=((HBT_1.out.drew.ext hs_.1)).cell 1 rfl
      have cBT_2:=((HBT_1.out.drew.ext hs_.1)).cell 2 rfl
      refine Rn.val fun K_ hK_=>?_
      go_simp
      exact hK_.out _ (Ext.refl _)
    refine RnL.cons (fun g1 A_ W_ hs_=>?_) ?_
    · have q7_:=hs_.val 2 rfl rfl rfl
      have q8_:=hs_.val 3 rfl rfl rfl
      refine Rn.val fun K_ hK_=>?_
      go_simp
      refine (adot_c r2 p _ (HG.out.ext (HX1.out.drew.trans hs_.1)) H2.out HP.out hk hm).mono ?_;rintro e W9_ ⟨rfl,e9_⟩;exact hK_.out _ e9_
    refine RnL.cons (fun g1 A_ W_ hs_=>?_) ?_
    · have q9_:=hs_.val 4 rfl rfl rfl
      refine Rn.val fun K_ hK_=>?_
      go_simp
      exact hK_.out _ (Ext.refl _)
    exact RnL.nil
  simp only [fs,Kd.value,puts,Act.put,List.setIfInBounds_toArray,List.set_cons_zero,List.set_cons_succ]
  have HX2:Hid (Ext w w2):=Lib.hid (HX1.out.drew.trans hx_)
  clear hx_ hm_ hne_
  go_wp2
  go_ret
  exact ⟨rfl,HX2.out⟩

set_option maxHeartbeats 2000000 in
theorem gap_2 (r1 r2 r3 p:V3) {k m:Nat} (kg kt:Nat) {ty1 ty2:TypeId} (w:World) (g:Gd w) (hg:Blk w kg #[.string (qs r1.x),.string (qs r1.y),.string (qs r1.z),.string (qs r2.x),.string (qs r2.y),.string (qs r2.z),.string (qs r3.x),.string (qs r3.y),.string (qs r3.z)] ty1) (ht:Blk w kt #[.string (qs p.x),.string (qs p.y),.string (qs p.z)] ty2) (h1:VB k r1) (h2:VB k r2) (h3:VB k r3) (hp:VB m p) (hk:k≤100) (hm:m≤100):Calls Tryz.prog 140 #[.int .i64 2,.pointer (some ⟨kg,0,none⟩),.pointer (some ⟨kt,0,none⟩)] w (Ret w (.string (qs (dot3 r3 p)))):=by
  have HCG:=Lib.hid hg
  have HCT:=Lib.hid ht
  have H1:=Lib.hid h1
  have H2:=Lib.hid h2
  have H3:=Lib.hid h3
  have HP:=Lib.hid hp
  have HG:=Lib.hid g
  clear hg ht h1 h2 h3 hp g
  go_enter Tryz.func140,Tryz.ntmps140
  go_wp2_with fail
  refine wp_name (fun W=>Ext w W∧Blk W (kg) #[.string (qs r1.x),.string (qs r1.y),.string (qs r1.z),.string (qs r2.x),.string (qs r2.y),.string (qs r2.z),.string (qs r3.x),.string (qs r3.y),.string (qs r3.z)] ty1∧Blk W (kt) #[.string (qs p.x),.string (qs p.y),.string (qs p.z)] ty2) ⟨(Ext.refl w),HCG.out,HCT.out⟩ ?_
  rintro w1 ⟨e1,bBG_1,bBT_1⟩
  have HX1:=Lib.hid e1;have HBG_1:=Lib.hid bBG_1;have HBT_1:=Lib.hid bBT_1
  clear e1 bBG_1 bBT_1
  refine region_lin [.val (.int .i64 2),.val (.pointer (some ⟨kg,6,none⟩)),.val (.agg #[.string (qs r3.x),.string (qs r3.y),.string (qs r3.z)]),.val (.agg #[.string (qs p.x),.string (qs p.y),.string (qs p.z)]),.val (.string (qs (dot3 r3 p))),.val (.string (qs (dot3 r3 p)))] (by kernel_rfl) (by kernel_rfl) (by kernel_rfl) ?_ (fun g1 w2 hx_ hm_ hne_=>?_)
  · skip
    refine RnL.cons (fun g1 A_ W_ hs_=>?_) ?_
    · have q0_:=(hs_.old 0 (by kernel_rfl):A_.tmps[0]?.getD undef = .int .i64 2)
      refine Rn.val fun K_ hK_=>?_
      go_simp
      exact hK_.out _ (Ext.refl _)
    refine RnL.cons (fun g1 A_ W_ hs_=>?_) ?_
    · have q1_:=(hs_.old 1 (by kernel_rfl):A_.tmps[1]?.getD undef = .pointer (some ⟨kg,0,none⟩))
      have q5_:=hs_.val 0 rfl rfl rfl
      refine Rn.val fun K_ hK_=>?_
      go_simp
      exact hK_.out _ (Ext.refl _)
    refine RnL.cons (fun g1 A_ W_ hs_=>?_) ?_
    · have q6_:=hs_.val 1 rfl rfl rfl
      have cBG_6:=((HBG_1.out.drew.ext hs_.1)).cell 6 rfl
      have cBG_7:=((HBG_1.out.drew.ext hs_.1)).cell 7 rfl
      have cBG_8:=((HBG_1.out.drew.ext hs_.1)).cell 8 rfl
      refine Rn.val fun K_ hK_=>?_
      go_simp
      exact hK_.out _ (Ext.refl _)
    refine RnL.cons (fun g1 A_ W_ hs_=>?_) ?_
    · have q2_:=(hs_.old 2 (by kernel_rfl):A_.tmps[2]?.getD undef = .pointer (some ⟨kt,0,none⟩))
      have cBT_0:=((HBT_1.out.drew.ext hs_.1)).cell 0 rfl
      have cBT_1:=((HBT_1.out.drew.ext hs_.1)).cell 1 rfl
      have cBT_2:=((HBT_1.out.drew.ext hs_.1)).cell 2 rfl
      refine Rn.val fun K_ hK_=>?_
      go_simp
      exact hK_.out _ (Ext.refl _)
    refine RnL.cons (fun g1 A_ W_ hs_=>?_) ?_
    · have q7_:=hs_.val 2 rfl rfl rfl
      have q8_:=hs_.val 3 rfl rfl rfl
      refine Rn.val fun K_ hK_=>?_
      go_simp
      refine (adot_c r3 p _ (HG.out.ext (HX1.out.drew.trans hs_.1)) H3.out HP.out hk hm).mono ?_;rintro e W9_ ⟨rfl,e9_⟩;exact hK_.out _ e9_
    refine RnL.cons (fun g1 A_ W_ hs_=>?_) ?_
    · have q9_:=hs_.val 4 rfl rfl rfl
      refine Rn.val fun K_ hK_=>?_
      go_simp
      exact hK_.out _ (Ext.refl _)
    exact RnL.nil
  simp only [fs,Kd.value,puts,Act.put,List.setIfInBounds_toArray,List.set_cons_zero,List.set_cons_succ]
  have HX2:Hid (Ext w w2):=Lib.hid (HX1.out.drew.trans hx_)
  clear hx_ hm_ hne_
  go_wp2
  go_ret
  exact ⟨rfl,HX2.out⟩

set_option maxHeartbeats 2000000 in
theorem each_ap (r1 r2 r3 p:V3) {k m:Nat} (kg kt:Nat) {ty1 ty2:TypeId} (w:World) (g:Gd w) (hg:Blk w kg #[.string (qs r1.x),.string (qs r1.y),.string (qs r1.z),.string (qs r2.x),.string (qs r2.y),.string (qs r2.z),.string (qs r3.x),.string (qs r3.y),.string (qs r3.z)] ty1) (ht:Blk w kt #[.string (qs p.x),.string (qs p.y),.string (qs p.z)] ty2) (h1:VB k r1) (h2:VB k r2) (h3:VB k r3) (hp:VB m p) (hk:k≤100) (hm:m≤100):Calls Tryz.prog 139 #[.func (.func 140) #[] #[.pointer (some ⟨kg,0,none⟩),.pointer (some ⟨kt,0,none⟩)]] w (Ret w (.agg #[.string (qs (dot3 r1 p)),.string (qs (dot3 r2 p)),.string (qs (dot3 r3 p))])):=by
  have HCG:=Lib.hid hg
  have HCT:=Lib.hid ht
  have H1:=Lib.hid h1
  have H2:=Lib.hid h2
  have H3:=Lib.hid h3
  have HP:=Lib.hid hp
  have HG:=Lib.hid g
  clear hg ht h1 h2 h3 hp g
  go_enter Tryz.func139,Tryz.ntmps139
  go_wp2_with fail
  refine (gap_0 r1 r2 r3 p (kg) (kt) _ (HG.out.ext ((Ext.refl w).alloc _)) (HCG.out.alloc _) (HCT.out.alloc _) H1.out H2.out H3.out HP.out hk hm).mono ?_;rintro e w1 ⟨rfl,e1⟩
  have HX1:Hid (Ext w w1):=Lib.hid (((Ext.refl w).alloc _).trans e1)
  have HBG_1:Hid (Blk w1 (kg) #[.string (qs r1.x),.string (qs r1.y),.string (qs r1.z),.string (qs r2.x),.string (qs r2.y),.string (qs r2.z),.string (qs r3.x),.string (qs r3.y),.string (qs r3.z)] ty1):=Lib.hid (Blk.ext (HCG.out.alloc _) e1)
  have HBT_1:Hid (Blk w1 (kt) #[.string (qs p.x),.string (qs p.y),.string (qs p.z)] ty2):=Lib.hid (Blk.ext (HCT.out.alloc _) e1)
  have HB0_1:Hid (Blk w1 (w.heap.size) #[.string ⟨#[]⟩,.string ⟨#[]⟩,.string ⟨#[]⟩] 119):=Lib.hid (Blk.ext (Blk.new' (w:=_) (cs:=#[.string ⟨#[]⟩,.string ⟨#[]⟩,.string ⟨#[]⟩]) (t:=119) (by first|rfl|(simp only [World.size_alloc];done)|(simp only [World.size_alloc];omega)|simp)) e1)
  have HGEB0:Hid (w.heap.size≤w.heap.size):=Lib.hid (by first|omega|(simp only [];omega)|(simp;omega))
  clear e1
  go_wp2_with fail
  refine (gap_1 r1 r2 r3 p (kg) (kt) _ (HG.out.ext HX1.out) HBG_1.out HBT_1.out H1.out H2.out H3.out HP.out hk hm).mono ?_;rintro e w2 ⟨rfl,e2⟩
  have HX2:Hid (Ext w w2):=Lib.hid (HX1.out.trans e2)
  have HBG_2:=Lib.hid (Blk.ext HBG_1.out e2)
  have HBT_2:=Lib.hid (Blk.ext HBT_1.out e2)
  have HB0_2:=Lib.hid (Blk.ext HB0_1.out e2)
  clear e2
  go_wp2_with fail
  refine (gap_2 r1 r2 r3 p (kg) (kt) _ (HG.out.ext HX2.out) HBG_2.out HBT_2.out H1.out H2.out H3.out HP.out hk hm).mono ?_;rintro e w3 ⟨rfl,e3⟩
  have HX3:Hid (Ext w w3):=Lib.hid (HX2.out.trans e3)
  have HBG_3:=Lib.hid (Blk.ext HBG_2.out e3)
  have HBT_3:=Lib.hid (Blk.ext HBT_2.out e3)
  have HB0_3:=Lib.hid (Blk.ext HB0_2.out e3)
  clear e3
  have c0_0:=HB0_3.out.cell 0 rfl
  have f0_0:=HB0_3.out.free 0
  have c0_1:=HB0_3.out.cell 1 rfl
  have f0_1:=HB0_3.out.free 1
  have c0_2:=HB0_3.out.cell 2 rfl
  have f0_2:=HB0_3.out.free 2
  go_wp2_with fail
  refine wp_name (fun W=>Ext w W∧Blk W (w.heap.size) #[.string (qs (dot3 r1 p)),.string (qs (dot3 r2 p)),.string (qs (dot3 r3 p))] 119) ⟨(((HX3.out.setCell (by have:=HGEB0.out;first|omega|(simp only [];omega)|(simp;omega)) _).setCell (by have:=HGEB0.out;first|omega|(simp only [];omega)|(simp;omega)) _).setCell (by have:=HGEB0.out;first|omega|(simp only [];omega)|(simp;omega)) _),(((HB0_3.out.set 0 (.string (qs (dot3 r1 p)))).set 1 (.string (qs (dot3 r2 p)))).set 2 (.string (qs (dot3 r3 p))))⟩ ?_
  rintro w4 ⟨e4,bB0_4⟩
  have HX4:=Lib.hid e4;have HB0_4:=Lib.hid bB0_4
  clear e4 bB0_4 c0_0 f0_0 c0_1 f0_1 c0_2 f0_2
  have gB0_0:=HB0_4.out.cell 0 rfl
  have gB0_1:=HB0_4.out.cell 1 rfl
  have gB0_2:=HB0_4.out.cell 2 rfl
  refine bodyPost_ret (v:=.agg #[.string (qs (dot3 r1 p)),.string (qs (dot3 r2 p)),.string (qs (dot3 r3 p))]) (by simp [results,Tryz.results139,go_sem,gB0_0,gB0_1,gB0_2]) rfl ⟨rfl,HX4.out⟩

set_option maxHeartbeats 2000000 in
theorem gapply_c (r1 r2 r3 p:V3) {k m:Nat} (w:World) (g:Gd w) (h1:VB k r1) (h2:VB k r2) (h3:VB k r3) (hp:VB m p) (hk:k≤100) (hm:m≤100):Calls Tryz.prog 86 #[.agg #[.string (qs r1.x),.string (qs r1.y),.string (qs r1.z),.string (qs r2.x),.string (qs r2.y),.string (qs r2.z),.string (qs r3.x),.string (qs r3.y),.string (qs r3.z)],.agg #[.string (qs p.x),.string (qs p.y),.string (qs p.z)]] w (Ret w (.agg #[.string (qs (dot3 r1 p)),.string (qs (dot3 r2 p)),.string (qs (dot3 r3 p))])):=by
  have H1:=Lib.hid h1
  have H2:=Lib.hid h2
  have H3:=Lib.hid h3
  have HP:=Lib.hid hp
  have HG:=Lib.hid g
  clear h1 h2 h3 hp g
  go_enter Tryz.func86,Tryz.ntmps86
  go_wp2_with fail
  refine (each_ap r1 r2 r3 p (w.heap.size) (w.heap.size+1) _ (HG.out.ext ((((Ext.refl w).alloc _).alloc _).alloc _)) (((Blk.new' (w:=_) (cs:=#[.string (qs r1.x),.string (qs r1.y),.string (qs r1.z),.string (qs r2.x),.string (qs r2.y),.string (qs r2.z),.string (qs r3.x),.string (qs r3.y),.string (qs r3.z)]) (t:=121) (by first|rfl|(simp only [World.size_alloc];done)|(simp only [World.size_alloc];omega)|simp)).alloc _).alloc _) ((Blk.new' (w:=_) (cs:=#[.string (qs p.x),.string (qs p.y),.string (qs p.z)]) (t:=119) (by first|rfl|(simp only [World.size_alloc];done)|(simp only [World.size_alloc];omega)|simp)).alloc _) H1.out H2.out H3.out HP.out hk hm).mono ?_;rintro e w1 ⟨rfl,e1⟩
  have HX1:Hid (Ext w w1):=Lib.hid (((((Ext.refl w).alloc _).alloc _).alloc _).trans e1)
  have HB0_1:Hid (Blk w1 (w.heap.size) #[.string (qs r1.x),.string (qs r1.y),.string (qs r1.z),.string (qs r2.x),.string (qs r2.y),.string (qs r2.z),.string (qs r3.x),.string (qs r3.y),.string (qs r3.z)] 121):=Lib.hid (Blk.ext (((Blk.new' (w:=_) (cs:=#[.string (qs r1.x),.string (qs r1.y),.string (qs r1.z),.string (qs r2.x),.string (qs r2.y),.string (qs r2.z),.string (qs r3.x),.string (qs r3.y),.string (qs r3.z)]) (t:=121) (by first|rfl|(simp only [World.size_alloc];done)|(simp only [World.size_alloc];omega)|simp)).alloc _).alloc _) e1)
  have HB1_1:Hid (Blk w1 (w.heap.size+1) #[.string (qs p.x),.string (qs p.y),.string (qs p.z)] 119):=Lib.hid (Blk.ext ((Blk.new' (w:=_) (cs:=#[.string (qs p.x),.string (qs p.y),.string (qs p.z)]) (t:=119) (by first|rfl|(simp only [World.size_alloc];done)|(simp only [World.size_alloc];omega)|simp)).alloc _) e1)
  have HB2_1:Hid (Blk w1 (w.heap.size+1+1) #[.string ⟨#[]⟩,.string ⟨#[]⟩,.string ⟨#[]⟩] 119):=Lib.hid (Blk.ext (Blk.new' (w:=_) (cs:=#[.string ⟨#[]⟩,.string ⟨#[]⟩,.string ⟨#[]⟩]) (t:=119) (by first|rfl|(simp only [World.size_alloc];done)|(simp only [World.size_alloc];omega)|simp)) e1)
  have HGEB0:Hid (w.heap.size≤w.heap.size):=Lib.hid (by first|omega|(simp only [];omega)|(simp;omega))
  have HGEB1:Hid (w.heap.size≤w.heap.size+1):=Lib.hid (by first|omega|(simp only [];omega)|(simp;omega))
  have HGEB2:Hid (w.heap.size≤w.heap.size+1+1):=Lib.hid (by first|omega|(simp only [];omega)|(simp;omega))
  clear e1
  have c2_0:=HB2_1.out.cell 0 rfl
  have f2_0:=HB2_1.out.free 0
  have c2_1:=HB2_1.out.cell 1 rfl
  have f2_1:=HB2_1.out.free 1
  have c2_2:=HB2_1.out.cell 2 rfl
  have f2_2:=HB2_1.out.free 2
  go_wp2_with fail
  refine wp_name (fun W=>Ext w W∧Blk W (w.heap.size+1+1) #[.string (qs (dot3 r1 p)),.string (qs (dot3 r2 p)),.string (qs (dot3 r3 p))] 119) ⟨(((HX1.out.setCell (by have:=HGEB2.out;first|omega|(simp only [];omega)|(simp;omega)) _).setCell (by have:=HGEB2.out;first|omega|(simp only [];omega)|(simp;omega)) _).setCell (by have:=HGEB2.out;first|omega|(simp only [];omega)|(simp;omega)) _),(((HB2_1.out.set 0 (.string (qs (dot3 r1 p)))).set 1 (.string (qs (dot3 r2 p)))).set 2 (.string (qs (dot3 r3 p))))⟩ ?_
  rintro w2 ⟨e2,bB2_2⟩
  have HX2:=Lib.hid e2;have HB2_2:=Lib.hid bB2_2
  clear e2 bB2_2 c2_0 f2_0 c2_1 f2_1 c2_2 f2_2
  have gB2_0:=HB2_2.out.cell 0 rfl
  have gB2_1:=HB2_2.out.cell 1 rfl
  have gB2_2:=HB2_2.out.cell 2 rfl
  refine bodyPost_ret (v:=.agg #[.string (qs (dot3 r1 p)),.string (qs (dot3 r2 p)),.string (qs (dot3 r3 p))]) (by simp [results,Tryz.results86,go_sem,gB2_0,gB2_1,gB2_2]) rfl ⟨rfl,HX2.out⟩

set_option maxHeartbeats 2000000 in
theorem tadd_0 (a b:V3) {k m:Nat} (ka kb:Nat) {ty1 ty2:TypeId} (w:World) (g:Gd w) (hca:Blk w ka #[.string (qs a.x),.string (qs a.y),.string (qs a.z)] ty1) (hcb:Blk w kb #[.string (qs b.x),.string (qs b.y),.string (qs b.z)] ty2) (ha:VB k a) (hb:VB m b) (hk:k≤1000) (hm:m≤1000):Calls Tryz.prog 142 #[.int .i64 0,.pointer (some ⟨ka,0,none⟩),.pointer (some ⟨kb,0,none⟩)] w (Ret w (.string (qs (a.x+b.x)))):=by
  have HCA:=Lib.hid hca
  have HCB:=Lib.hid hcb
  have HA:=Lib.hid ha
  have HB:=Lib.hid hb
  have HG:=Lib.hid g
  clear hca hcb ha hb g
  go_enter Tryz.func142,Tryz.ntmps142
  go_wp2_with fail
  refine wp_name (fun W=>Ext w W∧Blk W (ka) #[.string (qs a.x),.string (qs a.y),.string (qs a.z)] ty1∧Blk W (kb) #[.string (qs b.x),.string (qs b.y),.string (qs b.z)] ty2) ⟨(Ext.refl w),HCA.out,HCB.out⟩ ?_
  rintro w1 ⟨e1,bBA_1,bBB_1⟩
  have HX1:=Lib.hid e1;have HBA_1:=Lib.hid bBA_1;have HBB_1:=Lib.hid bBB_1
  clear e1 bBA_1 bBB_1
  refine region_lin [.val (.int .i64 0),.val (.pointer (some ⟨ka,0,none⟩)),.val (.string (qs a.x)),.val (.int .i64 0),.val (.pointer (some ⟨kb,0,none⟩)),.val (.string (qs b.x)),.val (.string (qs (a.x+b.x))),.val (.string (qs (a.x+b.x)))] (by kernel_rfl) (by kernel_rfl) (by kernel_rfl) ?_ (fun g1 w2 hx_ hm_ hne_=>?_)
  · skip
    refine RnL.cons (fun g1 A_ W_ hs_=>?_) ?_
    · have q0_:=(hs_.old 0 (by kernel_rfl):A_.tmps[0]?.getD undef = .int .i64 0)
      refine Rn.val fun K_ hK_=>?_
      go_simp
      exact hK_.out _ (Ext.refl _)
    refine RnL.cons (fun g1 A_ W_ hs_=>?_) ?_
    · have q1_:=(hs_.old 1 (by kernel_rfl):A_.tmps[1]?.getD undef = .pointer (some ⟨ka,0,none⟩))
      have q5_:=hs_.val 0 rfl rfl rfl
      refine Rn.val fun K_ hK_=>?_
      go_simp
      exact hK_.out _ (Ext.refl _)
    refine RnL.cons (fun g1 A_ W_ hs_=>?_) ?_
    · have q6_:=hs_.val 1 rfl rfl rfl
      have cBA_0:=((HBA_1.out.drew.ext hs_.1)).cell 0 rfl
      refine Rn.val fun K_ hK_=>?_
      go_simp
      exact hK_.out _ (Ext.refl _)
    refine RnL.cons (fun g1 A_ W_ hs_=>?_) ?_
    · have q0_:=(hs_.old 0 (by kernel_rfl):A_.tmps[0]?.getD undef = .int .i64 0)
      refine Rn.val fun K_ hK_=>?_
      go_simp
      exact hK_.out _ (Ext.refl _)
    refine RnL.cons (fun g1 A_ W_ hs_=>?_) ?_
    · have q2_:=(hs_.old 2 (by kernel_rfl):A_.tmps[2]?.getD undef = .pointer (some ⟨kb,0,none⟩))
      have q8_:=hs_.val 3 rfl rfl rfl
      refine Rn.val fun K_ hK_=>?_
      go_simp
      exact hK_.out _ (Ext.refl _)
    refine RnL.cons (fun g1 A_ W_ hs_=>?_) ?_
    · have q9_:=hs_.val 4 rfl rfl rfl
      have cBB_0:=((HBB_1.out.drew.ext hs_.1)).cell 0 rfl
      refine Rn.val fun K_ hK_=>?_
      go_simp
      exact hK_.out _ (Ext.refl _)
    refine RnL.cons (fun g1 A_ W_ hs_=>?_) ?_
    · have q7_:=hs_.val 2 rfl rfl rfl
      have q10_:=hs_.val 5 rfl rfl rfl
      refine Rn.val fun K_ hK_=>?_
      go_simp
      refine (radd_c a.x b.x _ (HG.out.ext (HX1.out.drew.trans hs_.1)) HA.out.x HB.out.x (by omega) (by omega)).mono ?_;rintro e W9_ ⟨rfl,e9_⟩;exact hK_.out _ e9_
    refine RnL.cons (fun g1 A_ W_ hs_=>?_) ?_
    · have q11_:=hs_.val 6 rfl rfl rfl
      refine Rn.val fun K_ hK_=>?_
      go_simp
      exact hK_.out _ (Ext.refl _)
    exact RnL.nil
  simp only [fs,Kd.value,puts,Act.put,List.setIfInBounds_toArray,List.set_cons_zero,List.set_cons_succ]
  have HX2:Hid (Ext w w2):=Lib.hid (HX1.out.drew.trans hx_)
  clear hx_ hm_ hne_
  go_wp2
  go_ret
  exact ⟨rfl,HX2.out⟩

set_option maxHeartbeats 2000000 in
theorem tadd_1 (a b:V3) {k m:Nat} (ka kb:Nat) {ty1 ty2:TypeId} (w:World) (g:Gd w) (hca:Blk w ka #[.string (qs a.x),.string (qs a.y),.string (qs a.z)] ty1) (hcb:Blk w kb #[.string (qs b.x),.string (qs b.y),.string (qs b.z)] ty2) (ha:VB k a) (hb:VB m b) (hk:k≤1000) (hm:m≤1000):Calls Tryz.prog 142 #[.int .i64 1,.pointer (some ⟨ka,0,none⟩),.pointer (some ⟨kb,0,none⟩)] w (Ret w (.string (qs (a.y+b.y)))):=by
  have HCA:=Lib.hid hca
  have HCB:=Lib.hid hcb
  have HA:=Lib.hid ha
  have HB:=Lib.hid hb
  have HG:=Lib.hid g
  clear hca hcb ha hb g
  go_enter Tryz.func142,Tryz.ntmps142
  go_wp2_with fail
  refine wp_name (fun W=>Ext w W∧Blk W (ka) #[.string (qs a.x),.string (qs a.y),.string (qs a.z)] ty1∧Blk W (kb) #[.string (qs b.x),.string (qs b.y),.string (qs b.z)] ty2) ⟨(Ext.refl w),HCA.out,HCB.out⟩ ?_
  rintro w1 ⟨e1,bBA_1,bBB_1⟩
  have HX1:=Lib.hid e1;have HBA_1:=Lib.hid bBA_1;have HBB_1:=Lib.hid bBB_1
  clear e1 bBA_1 bBB_1
  refine region_lin [.val (.int .i64 1),.val (.pointer (some ⟨ka,1,none⟩)),.val (.string (qs a.y)),.val (.int .i64 1),.val (.pointer (some ⟨kb,1,none⟩)),.val (.string (qs b.y)),.val (.string (qs (a.y+b.y))),.val (.string (qs (a.y+b.y)))] (by kernel_rfl) (by kernel_rfl) (by kernel_rfl) ?_ (fun g1 w2 hx_ hm_ hne_=>?_)
  · skip
    refine RnL.cons (fun g1 A_ W_ hs_=>?_) ?_
    · have q0_:=(hs_.old 0 (by kernel_rfl):A_.tmps[0]?.getD undef = .int .i64 1)
      refine Rn.val fun K_ hK_=>?_
      go_simp
      exact hK_.out _ (Ext.refl _)
    refine RnL.cons (fun g1 A_ W_ hs_=>?_) ?_
    · have q1_:=(hs_.old 1 (by kernel_rfl):A_.tmps[1]?.getD undef = .pointer (some ⟨ka,0,none⟩))
      have q5_:=hs_.val 0 rfl rfl rfl
      refine Rn.val fun K_ hK_=>?_
      go_simp
      exact hK_.out _ (Ext.refl _)
    refine RnL.cons (fun g1 A_ W_ hs_=>?_) ?_
    · have q6_:=hs_.val 1 rfl rfl rfl
      have cBA_1:=((HBA_1.out.drew.ext hs_.1)).cell 1 rfl
      refine Rn.val fun K_ hK_=>?_
      go_simp
      exact hK_.out _ (Ext.refl _)
    refine RnL.cons (fun g1 A_ W_ hs_=>?_) ?_
    · have q0_:=(hs_.old 0 (by kernel_rfl):A_.tmps[0]?.getD undef = .int .i64 1)
      refine Rn.val fun K_ hK_=>?_
      go_simp
      exact hK_.out _ (Ext.refl _)
    refine RnL.cons (fun g1 A_ W_ hs_=>?_) ?_
    · have q2_:=(hs_.old 2 (by kernel_rfl):A_.tmps[2]?.getD undef = .pointer (some ⟨kb,0,none⟩))
      have q8_:=hs_.val 3 rfl rfl rfl
      refine Rn.val fun K_ hK_=>?_
      go_simp
      exact hK_.out _ (Ext.refl _)
    refine RnL.cons (fun g1 A_ W_ hs_=>?_) ?_
    · have q9_:=hs_.val 4 rfl rfl rfl
      have cBB_1:=((HBB_1.out.drew.ext hs_.1)).cell 1 rfl
      refine Rn.val fun K_ hK_=>?_
      go_simp
      exact hK_.out _ (Ext.refl _)
    refine RnL.cons (fun g1 A_ W_ hs_=>?_) ?_
    · have q7_:=hs_.val 2 rfl rfl rfl
      have q10_:=hs_.val 5 rfl rfl rfl
      refine Rn.val fun K_ hK_=>?_
      go_simp
      refine (radd_c a.y b.y _ (HG.out.ext (HX1.out.drew.trans hs_.1)) HA.out.y HB.out.y (by omega) (by omega)).mono ?_;rintro e W9_ ⟨rfl,e9_⟩;exact hK_.out _ e9_
    refine RnL.cons (fun g1 A_ W_ hs_=>?_) ?_
    · have q11_:=hs_.val 6 rfl rfl rfl
      refine Rn.val fun K_ hK_=>?_
      go_simp
      exact hK_.out _ (Ext.refl _)
    exact RnL.nil
  simp only [fs,Kd.value,puts,Act.put,List.setIfInBounds_toArray,List.set_cons_zero,List.set_cons_succ]
  have HX2:Hid (Ext w w2):=Lib.hid (HX1.out.drew.trans hx_)
  clear hx_ hm_ hne_
  go_wp2
  go_ret
  exact ⟨rfl,HX2.out⟩

set_option maxHeartbeats 2000000 in
theorem tadd_2 (a b:V3) {k m:Nat} (ka kb:Nat) {ty1 ty2:TypeId} (w:World) (g:Gd w) (hca:Blk w ka #[.string (qs a.x),.string (qs a.y),.string (qs a.z)] ty1) (hcb:Blk w kb #[.string (qs b.x),.string (qs b.y),.string (qs b.z)] ty2) (ha:VB k a) (hb:VB m b) (hk:k≤1000) (hm:m≤1000):Calls Tryz.prog 142 #[.int .i64 2,.pointer (some ⟨ka,0,none⟩),.pointer (some ⟨kb,0,none⟩)] w (Ret w (.string (qs (a.z+b.z)))):=by
  have HCA:=Lib.hid hca
  have HCB:=Lib.hid hcb
  have HA:=Lib.hid ha
  have HB:=Lib.hid hb
  have HG:=Lib.hid g
  clear hca hcb ha hb g
  go_enter Tryz.func142,Tryz.ntmps142
  go_wp2_with fail
  refine wp_name (fun W=>Ext w W∧Blk W (ka) #[.string (qs a.x),.string (qs a.y),.string (qs a.z)] ty1∧Blk W (kb) #[.string (qs b.x),.string (qs b.y),.string (qs b.z)] ty2) ⟨(Ext.refl w),HCA.out,HCB.out⟩ ?_
  rintro w1 ⟨e1,bBA_1,bBB_1⟩
  have HX1:=Lib.hid e1;have HBA_1:=Lib.hid bBA_1;have HBB_1:=Lib.hid bBB_1
  clear e1 bBA_1 bBB_1
  refine region_lin [.val (.int .i64 2),.val (.pointer (some ⟨ka,2,none⟩)),.val (.string (qs a.z)),.val (.int .i64 2),.val (.pointer (some ⟨kb,2,none⟩)),.val (.string (qs b.z)),.val (.string (qs (a.z+b.z))),.val (.string (qs (a.z+b.z)))] (by kernel_rfl) (by kernel_rfl) (by kernel_rfl) ?_ (fun g1 w2 hx_ hm_ hne_=>?_)
  · skip
    refine RnL.cons (fun g1 A_ W_ hs_=>?_) ?_
    · have q0_:=(hs_.old 0 (by kernel_rfl):A_.tmps[0]?.getD undef = .int .i64 2)
      refine Rn.val fun K_ hK_=>?_
      go_simp
      exact hK_.out _ (Ext.refl _)
    refine RnL.cons (fun g1 A_ W_ hs_=>?_) ?_
    · have q1_:=(hs_.old 1 (by kernel_rfl):A_.tmps[1]?.getD undef = .pointer (some ⟨ka,0,none⟩))
      have q5_:=hs_.val 0 rfl rfl rfl
      refine Rn.val fun K_ hK_=>?_
      go_simp
      exact hK_.out _ (Ext.refl _)
    refine RnL.cons (fun g1 A_ W_ hs_=>?_) ?_
    · have q6_:=hs_.val 1 rfl rfl rfl
      have cBA_2:=((HBA_1.out.drew.ext hs_.1)).cell 2 rfl
      refine Rn.val fun K_ hK_=>?_
      go_simp
      exact hK_.out _ (Ext.refl _)
    refine RnL.cons (fun g1 A_ W_ hs_=>?_) ?_
    · have q0_:=(hs_.old 0 (by kernel_rfl):A_.tmps[0]?.getD undef = .int .i64 2)
      refine Rn.val fun K_ hK_=>?_
      go_simp
      exact hK_.out _ (Ext.refl _)
    refine RnL.cons (fun g1 A_ W_ hs_=>?_) ?_
    · have q2_:=(hs_.old 2 (by kernel_rfl):A_.tmps[2]?.getD undef = .pointer (some ⟨kb,0,none⟩))
      have q8_:=hs_.val 3 rfl rfl rfl
      refine Rn.val fun K_ hK_=>?_
      go_simp
      exact hK_.out _ (Ext.refl _)
    refine RnL.cons (fun g1 A_ W_ hs_=>?_) ?_
    · have q9_:=hs_.val 4 rfl rfl rfl
      have cBB_2:=((HBB_1.out.drew.ext hs_.1)).cell 2 rfl
      refine Rn.val fun K_ hK_=>?_
      go_simp
      exact hK_.out _ (Ext.refl _)
    refine RnL.cons (fun g1 A_ W_ hs_=>?_) ?_
    · have q7_:=hs_.val 2 rfl rfl rfl
      have q10_:=hs_.val 5 rfl rfl rfl
      refine Rn.val fun K_ hK_=>?_
      go_simp
      refine (radd_c a.z b.z _ (HG.out.ext (HX1.out.drew.trans hs_.1)) HA.out.z HB.out.z (by omega) (by omega)).mono ?_;rintro e W9_ ⟨rfl,e9_⟩;exact hK_.out _ e9_
    refine RnL.cons (fun g1 A_ W_ hs_=>?_) ?_
    · have q11_:=hs_.val 6 rfl rfl rfl
      refine Rn.val fun K_ hK_=>?_
      go_simp
      exact hK_.out _ (Ext.refl _)
    exact RnL.nil
  simp only [fs,Kd.value,puts,Act.put,List.setIfInBounds_toArray,List.set_cons_zero,List.set_cons_succ]
  have HX2:Hid (Ext w w2):=Lib.hid (HX1.out.drew.trans hx_)
  clear hx_ hm_ hne_
  go_wp2
  go_ret
  exact ⟨rfl,HX2.out⟩

set_option maxHeartbeats 2000000 in
theorem each_add3 (a b:V3) {k m:Nat} (ka kb:Nat) {ty1 ty2:TypeId} (w:World) (g:Gd w) (hca:Blk w ka #[.string (qs a.x),.string (qs a.y),.string (qs a.z)] ty1) (hcb:Blk w kb #[.string (qs b.x),.string (qs b.y),.string (qs b.z)] ty2) (ha:VB k a) (hb:VB m b) (hk:k≤1000) (hm:m≤1000):Calls Tryz.prog 139 #[.func (.func 142) #[] #[.pointer (some ⟨ka,0,none⟩),.pointer (some ⟨kb,0,none⟩)]] w (Ret w (.agg #[.string (qs (a.x+b.x)),.string (qs (a.y+b.y)),.string (qs (a.z+b.z))])):=by
  have HCA:=Lib.hid hca
  have HCB:=Lib.hid hcb
  have HA:=Lib.hid ha
  have HB:=Lib.hid hb
  have HG:=Lib.hid g
  clear hca hcb ha hb g
  go_enter Tryz.func139,Tryz.ntmps139
  go_wp2_with fail
  refine (tadd_0 a b (ka) (kb) _ (HG.out.ext ((Ext.refl w).alloc _)) (HCA.out.alloc _) (HCB.out.alloc _) HA.out HB.out hk hm).mono ?_;rintro e w1 ⟨rfl,e1⟩
  have HX1:Hid (Ext w w1):=Lib.hid (((Ext.refl w).alloc _).trans e1)
  have HBA_1:Hid (Blk w1 (ka) #[.string (qs a.x),.string (qs a.y),.string (qs a.z)] ty1):=Lib.hid (Blk.ext (HCA.out.alloc _) e1)
  have HBB_1:Hid (Blk w1 (kb) #[.string (qs b.x),.string (qs b.y),.string (qs b.z)] ty2):=Lib.hid (Blk.ext (HCB.out.alloc _) e1)
  have HB0_1:Hid (Blk w1 (w.heap.size) #[.string ⟨#[]⟩,.string ⟨#[]⟩,.string ⟨#[]⟩] 119):=Lib.hid (Blk.ext (Blk.new' (w:=_) (cs:=#[.string ⟨#[]⟩,.string ⟨#[]⟩,.string ⟨#[]⟩]) (t:=119) (by first|rfl|(simp only [World.size_alloc];done)|(simp only [World.size_alloc];omega)|simp)) e1)
  have HGEB0:Hid (w.heap.size≤w.heap.size):=Lib.hid (by first|omega|(simp only [];omega)|(simp;omega))
  clear e1
  go_wp2_with fail
  refine (tadd_1 a b (ka) (kb) _ (HG.out.ext HX1.out) HBA_1.out HBB_1.out HA.out HB.out hk hm).mono ?_;rintro e w2 ⟨rfl,e2⟩
  have HX2:Hid (Ext w w2):=Lib.hid (HX1.out.trans e2)
  have HBA_2:=Lib.hid (Blk.ext HBA_1.out e2)
  have HBB_2:=Lib.hid (Blk.ext HBB_1.out e2)
  have HB0_2:=Lib.hid (Blk.ext HB0_1.out e2)
  clear e2
  go_wp2_with fail
  refine (tadd_2 a b (ka) (kb) _ (HG.out.ext HX2.out) HBA_2.out HBB_2.out HA.out HB.out hk hm).mono ?_;rintro e w3 ⟨rfl,e3⟩
  have HX3:Hid (Ext w w3):=Lib.hid (HX2.out.trans e3)
  have HBA_3:=Lib.hid (Blk.ext HBA_2.out e3)
  have HBB_3:=Lib.hid (Blk.ext HBB_2.out e3)
  have HB0_3:=Lib.hid (Blk.ext HB0_2.out e3)
  clear e3
  have c0_0:=HB0_3.out.cell 0 rfl
  have f0_0:=HB0_3.out.free 0
  have c0_1:=HB0_3.out.cell 1 rfl
  have f0_1:=HB0_3.out.free 1
  have c0_2:=HB0_3.out.cell 2 rfl
  have f0_2:=HB0_3.out.free 2
  go_wp2_with fail
  refine wp_name (fun W=>Ext w W∧Blk W (w.heap.size) #[.string (qs (a.x+b.x)),.string (qs (a.y+b.y)),.string (qs (a.z+b.z))] 119) ⟨(((HX3.out.setCell (by have:=HGEB0.out;first|omega|(simp only [];omega)|(simp;omega)) _).setCell (by have:=HGEB0.out;first|omega|(simp only [];omega)|(simp;omega)) _).setCell (by have:=HGEB0.out;first|omega|(simp only [];omega)|(simp;omega)) _),(((HB0_3.out.set 0 (.string (qs (a.x+b.x)))).set 1 (.string (qs (a.y+b.y)))).set 2 (.string (qs (a.z+b.z))))⟩ ?_
  rintro w4 ⟨e4,bB0_4⟩
  have HX4:=Lib.hid e4;have HB0_4:=Lib.hid bB0_4
  clear e4 bB0_4 c0_0 f0_0 c0_1 f0_1 c0_2 f0_2
  have gB0_0:=HB0_4.out.cell 0 rfl
  have gB0_1:=HB0_4.out.cell 1 rfl
  have gB0_2:=HB0_4.out.cell 2 rfl
  refine bodyPost_ret (v:=.agg #[.string (qs (a.x+b.x)),.string (qs (a.y+b.y)),.string (qs (a.z+b.z))]) (by simp [results,Tryz.results139,go_sem,gB0_0,gB0_1,gB0_2]) rfl ⟨rfl,HX4.out⟩

set_option maxHeartbeats 2000000 in
theorem tadd_c (a b:V3) {k m:Nat} (w:World) (g:Gd w) (ha:VB k a) (hb:VB m b) (hk:k≤1000) (hm:m≤1000):Calls Tryz.prog 88 #[.agg #[.string (qs a.x),.string (qs a.y),.string (qs a.z)],.agg #[.string (qs b.x),.string (qs b.y),.string (qs b.z)]] w (Ret w (.agg #[.string (qs (a.x+b.x)),.string (qs (a.y+b.y)),.string (qs (a.z+b.z))])):=by
  have HA:=Lib.hid ha
  have HB:=Lib.hid hb
  have HG:=Lib.hid g
  clear ha hb g
  go_enter Tryz.func88,Tryz.ntmps88
  go_wp2_with fail
  refine (each_add3 a b (w.heap.size) (w.heap.size+1) _ (HG.out.ext ((((Ext.refl w).alloc _).alloc _).alloc _)) (((Blk.new' (w:=_) (cs:=#[.string (qs a.x),.string (qs a.y),.string (qs a.z)]) (t:=119) (by first|rfl|(simp only [World.size_alloc];done)|(simp only [World.size_alloc];omega)|simp)).alloc _).alloc _) ((Blk.new' (w:=_) (cs:=#[.string (qs b.x),.string (qs b.y),.string (qs b.z)]) (t:=119) (by first|rfl|(simp only [World.size_alloc];done)|(simp only [World.size_alloc];omega)|simp)).alloc _) HA.out HB.out hk hm).mono ?_;rintro e w1 ⟨rfl,e1⟩
  have HX1:Hid (Ext w w1):=Lib.hid (((((Ext.refl w).alloc _).alloc _).alloc _).trans e1)
  have HB0_1:Hid (Blk w1 (w.heap.size) #[.string (qs a.x),.string (qs a.y),.string (qs a.z)] 119):=Lib.hid (Blk.ext (((Blk.new' (w:=_) (cs:=#[.string (qs a.x),.string (qs a.y),.string (qs a.z)]) (t:=119) (by first|rfl|(simp only [World.size_alloc];done)|(simp only [World.size_alloc];omega)|simp)).alloc _).alloc _) e1)
  have HB1_1:Hid (Blk w1 (w.heap.size+1) #[.string (qs b.x),.string (qs b.y),.string (qs b.z)] 119):=Lib.hid (Blk.ext ((Blk.new' (w:=_) (cs:=#[.string (qs b.x),.string (qs b.y),.string (qs b.z)]) (t:=119) (by first|rfl|(simp only [World.size_alloc];done)|(simp only [World.size_alloc];omega)|simp)).alloc _) e1)
  have HB2_1:Hid (Blk w1 (w.heap.size+1+1) #[.string ⟨#[]⟩,.string ⟨#[]⟩,.string ⟨#[]⟩] 119):=Lib.hid (Blk.ext (Blk.new' (w:=_) (cs:=#[.string ⟨#[]⟩,.string ⟨#[]⟩,.string ⟨#[]⟩]) (t:=119) (by first|rfl|(simp only [World.size_alloc];done)|(simp only [World.size_alloc];omega)|simp)) e1)
  have HGEB0:Hid (w.heap.size≤w.heap.size):=Lib.hid (by first|omega|(simp only [];omega)|(simp;omega))
  have HGEB1:Hid (w.heap.size≤w.heap.size+1):=Lib.hid (by first|omega|(simp only [];omega)|(simp;omega))
  have HGEB2:Hid (w.heap.size≤w.heap.size+1+1):=Lib.hid (by first|omega|(simp only [];omega)|(simp;omega))
  clear e1
  have c2_0:=HB2_1.out.cell 0 rfl
  have f2_0:=HB2_1.out.free 0
  have c2_1:=HB2_1.out.cell 1 rfl
  have f2_1:=HB2_1.out.free 1
  have c2_2:=HB2_1.out.cell 2 rfl
  have f2_2:=HB2_1.out.free 2
  go_wp2_with fail
  refine wp_name (fun W=>Ext w W∧Blk W (w.heap.size+1+1) #[.string (qs (a.x+b.x)),.string (qs (a.y+b.y)),.string (qs (a.z+b.z))] 119) ⟨(((HX1.out.setCell (by have:=HGEB2.out;first|omega|(simp only [];omega)|(simp;omega)) _).setCell (by have:=HGEB2.out;first|omega|(simp only [];omega)|(simp;omega)) _).setCell (by have:=HGEB2.out;first|omega|(simp only [];omega)|(simp;omega)) _),(((HB2_1.out.set 0 (.string (qs (a.x+b.x)))).set 1 (.string (qs (a.y+b.y)))).set 2 (.string (qs (a.z+b.z))))⟩ ?_
  rintro w2 ⟨e2,bB2_2⟩
  have HX2:=Lib.hid e2;have HB2_2:=Lib.hid bB2_2
  clear e2 bB2_2 c2_0 f2_0 c2_1 f2_1 c2_2 f2_2
  have gB2_0:=HB2_2.out.cell 0 rfl
  have gB2_1:=HB2_2.out.cell 1 rfl
  have gB2_2:=HB2_2.out.cell 2 rfl
  refine bodyPost_ret (v:=.agg #[.string (qs (a.x+b.x)),.string (qs (a.y+b.y)),.string (qs (a.z+b.z))]) (by simp [results,Tryz.results88,go_sem,gB2_0,gB2_1,gB2_2]) rfl ⟨rfl,HX2.out⟩

set_option maxHeartbeats 2000000 in
theorem aplace_c (v:V3) (w:World) (g:Gd w) (hv:VB 200 v):Calls Tryz.prog 84 #[.agg #[.string (qs v.x),.string (qs v.y),.string (qs v.z)]] w (Ret w (.tuple #[.agg #[.string (qs v.x),.string (qs v.y),.string (qs v.z)],.int .i64 0])):=by
  have HV:=Lib.hid hv
  have HG:=Lib.hid g
  clear hv g
  go_enter Tryz.func84,Tryz.ntmps84
  go_wp2_with fail
  refine (avec_c v _ (HG.out.ext (((Ext.refl w).alloc _).alloc _))).mono ?_;rintro e w1 ⟨rfl,e1⟩
  have HX1:Hid (Ext w w1):=Lib.hid ((((Ext.refl w).alloc _).alloc _).trans e1)
  have HB1_1:Hid (Blk w1 (w.heap.size+1) #[.string ⟨#[]⟩,.string ⟨#[]⟩,.string ⟨#[]⟩] 31):=Lib.hid (Blk.ext (Blk.new' (w:=_) (cs:=#[.string ⟨#[]⟩,.string ⟨#[]⟩,.string ⟨#[]⟩]) (t:=31) (by first|rfl|(simp only [World.size_alloc];done)|(simp only [World.size_alloc];omega)|simp)) e1)
  have HGEB1:Hid (w.heap.size≤w.heap.size+1):=Lib.hid (by first|omega|(simp only [];omega)|(simp;omega))
  clear e1
  go_upto_region 2 with fail
  refine wp_name (fun W=>Ext w W∧Blk W (w.heap.size+1) #[.string ⟨#[]⟩,.string ⟨#[]⟩,.string ⟨#[]⟩] 31∧Blk W (w1.heap.size) #[.string (qs v.x),.string (qs v.y),.string (qs v.z)] 31) ⟨(HX1.out.alloc _),(HB1_1.out.alloc _),(Blk.new' (w:=_) (cs:=#[.string (qs v.x),.string (qs v.y),.string (qs v.z)]) (t:=31) (by first|rfl|(simp only [World.size_alloc];done)|(simp only [World.size_alloc];omega)|simp))⟩ ?_
  rintro w2 ⟨e2,bB1_2,bB2_2⟩
  have HX2:=Lib.hid e2;have HB1_2:=Lib.hid bB1_2;have HB2_2:=Lib.hid bB2_2
  have HGEB2:Hid (w.heap.size≤w1.heap.size):=Lib.hid (by have:=HX1.out.size;first|omega|(simp only [];omega)|(simp;omega))
  clear e2 bB1_2 bB2_2
  have c2_0:=HB2_2.out.cell 0 rfl
  have c2_1:=HB2_2.out.cell 1 rfl
  have c2_2:=HB2_2.out.cell 2 rfl
  go_wp2_with fail
  refine (vCheck_ok v _ (HG.out.ext HX2.out) HV.out).mono ?_;rintro e w3 ⟨rfl,e3⟩
  have HX3:Hid (Ext w w3):=Lib.hid (HX2.out.trans e3)
  have HB1_3:=Lib.hid (Blk.ext HB1_2.out e3)
  have HB2_3:=Lib.hid (Blk.ext HB2_2.out e3)
  clear e3 c2_0 c2_1 c2_2
  have c2_0:=HB2_3.out.cell 0 rfl
  have c2_1:=HB2_3.out.cell 1 rfl
  have c2_2:=HB2_3.out.cell 2 rfl
  have c1_0:=HB1_3.out.cell 0 rfl
  have f1_0:=HB1_3.out.free 0
  have c1_1:=HB1_3.out.cell 1 rfl
  have f1_1:=HB1_3.out.free 1
  have c1_2:=HB1_3.out.cell 2 rfl
  have f1_2:=HB1_3.out.free 2
  go_wp2_with fail
  refine wp_name (fun W=>Ext w W∧Blk W (w.heap.size+1) #[.string (qs v.x),.string (qs v.y),.string (qs v.z)] 31) ⟨(((HX3.out.setCell (by have:=HGEB1.out;first|omega|(simp only [];omega)|(simp;omega)) _).setCell (by have:=HGEB1.out;first|omega|(simp only [];omega)|(simp;omega)) _).setCell (by have:=HGEB1.out;first|omega|(simp only [];omega)|(simp;omega)) _),(((HB1_3.out.set 0 (.string (qs v.x))).set 1 (.string (qs v.y))).set 2 (.string (qs v.z)))⟩ ?_
  rintro w4 ⟨e4,bB1_4⟩
  have HX4:=Lib.hid e4;have HB1_4:=Lib.hid bB1_4
  clear e4 bB1_4 c2_0 c2_1 c2_2 c1_0 f1_0 c1_1 f1_1 c1_2 f1_2
  have gB1_0:=HB1_4.out.cell 0 rfl
  have gB1_1:=HB1_4.out.cell 1 rfl
  have gB1_2:=HB1_4.out.cell 2 rfl
  refine bodyPost_ret (v:=.tuple #[.agg #[.string (qs v.x),.string (qs v.y),.string (qs v.z)],.int .i64 0]) (by simp [results,Tryz.results84,go_sem,gB1_0,gB1_1,gB1_2]) rfl ⟨rfl,HX4.out⟩

set_option maxHeartbeats 2000000 in
theorem af1_c (v:V3) (w:World) (g:Gd w) (hv:VB 200 v):Calls Tryz.prog 174 #[.agg #[.string (qs v.x),.string (qs v.y),.string (qs v.z)]] w (Ret w (.bool false)):=by
  have HV:=Lib.hid hv
  have HG:=Lib.hid g
  clear hv g
  go_enter Tryz.func174,Tryz.ntmps174
  go_wp2_with fail
  refine (vCheck_ok v _ (HG.out.ext ((Ext.refl w).alloc _)) HV.out).mono ?_;rintro e w1 ⟨rfl,e1⟩
  have HX1:Hid (Ext w w1):=Lib.hid (((Ext.refl w).alloc _).trans e1)
  clear e1
  go_wp2
  go_ret
  exact ⟨rfl,HX1.out⟩

set_option maxHeartbeats 2000000 in
theorem aix1 (v1:V3) (kb:Nat) {ty:TypeId} (w:World) (g:Gd w) (hB:Blk w kb #[.string (qs v1.x),.string (qs v1.y),.string (qs v1.z)] ty) (h1:VB 200 v1):Calls Tryz.prog 194 #[.slice (some ⟨kb,0,none⟩) 1 1,.func (.func 174) #[] #[]] w (Ret w (.int .i64 (-1))):=by
  have HCB:=Lib.hid hB
  have H1:=Lib.hid h1
  have HG:=Lib.hid g
  clear hB h1 g
  go_enter Tryz.func194,Tryz.ntmps194
  go_wp2_with fail
  refine wp_loop_rounds 2 ?_
  rw [rounds_succ]
  have cP_0:=HCB.out.cell 0 rfl
  have cP_1:=HCB.out.cell 1 rfl
  have cP_2:=HCB.out.cell 2 rfl
  go_wp2_with fail
  refine (af1_c v1 _ (HG.out.ext (Ext.refl w)) H1.out).mono ?_;rintro e w1 ⟨rfl,e1⟩
  have HX1:Hid (Ext w w1):=Lib.hid ((Ext.refl w).trans e1)
  clear e1 cP_0 cP_1 cP_2
  go_wp2_with fail
  rw [rounds_succ]
  go_wp2
  go_ret
  exact ⟨rfl,HX1.out⟩

set_option maxHeartbeats 2000000 in
theorem acf1 (v1:V3) (kb:Nat) {ty:TypeId} (w:World) (g:Gd w) (hB:Blk w kb #[.string (qs v1.x),.string (qs v1.y),.string (qs v1.z)] ty) (h1:VB 200 v1):Calls Tryz.prog 173 #[.slice (some ⟨kb,0,none⟩) 1 1,.func (.func 174) #[] #[]] w (Ret w (.bool false)):=by
  have HCB:=Lib.hid hB
  have H1:=Lib.hid h1
  have HG:=Lib.hid g
  clear hB h1 g
  go_enter Tryz.func173,Tryz.ntmps173
  go_wp2_with fail
  refine (aix1 v1 (kb) _ (HG.out.ext (Ext.refl w)) HCB.out H1.out).mono ?_;rintro e w1 ⟨rfl,e1⟩
  have HX1:Hid (Ext w w1):=Lib.hid ((Ext.refl w).trans e1)
  have HBP_1:=Lib.hid (Blk.ext HCB.out e1)
  clear e1
  go_wp2
  go_ret
  exact ⟨rfl,HX1.out⟩

set_option maxHeartbeats 2000000 in
theorem afirst1 (v1:V3) (kb:Nat) {ty:TypeId} (w:World) (g:Gd w) (hB:Blk w kb #[.string (qs v1.x),.string (qs v1.y),.string (qs v1.z)] ty) (h1:VB 200 v1):Calls Tryz.prog 137 #[.slice (some ⟨kb,0,none⟩) 1 1] w (Ret w (.int .i64 0)):=by
  have HCB:=Lib.hid hB
  have H1:=Lib.hid h1
  have HG:=Lib.hid g
  clear hB h1 g
  go_enter Tryz.func137,Tryz.ntmps137
  go_wp2_with fail
  refine (acf1 v1 (kb) _ (HG.out.ext (Ext.refl w)) HCB.out H1.out).mono ?_;rintro e w1 ⟨rfl,e1⟩
  have HX1:Hid (Ext w w1):=Lib.hid ((Ext.refl w).trans e1)
  have HBP_1:=Lib.hid (Blk.ext HCB.out e1)
  clear e1
  go_wp2
  go_ret
  exact ⟨rfl,HX1.out⟩

set_option maxHeartbeats 2000000 in
theorem aix4 (v1 v2 v3 v4:V3) (kb:Nat) {ty:TypeId} (w:World) (g:Gd w) (hB:Blk w kb #[.string (qs v1.x),.string (qs v1.y),.string (qs v1.z),.string (qs v2.x),.string (qs v2.y),.string (qs v2.z),.string (qs v3.x),.string (qs v3.y),.string (qs v3.z),.string (qs v4.x),.string (qs v4.y),.string (qs v4.z)] ty) (h1:VB 200 v1) (h2:VB 200 v2) (h3:VB 200 v3) (h4:VB 200 v4):Calls Tryz.prog 194 #[.slice (some ⟨kb,0,none⟩) 4 4,.func (.func 174) #[] #[]] w (Ret w (.int .i64 (-1))):=by
  have HCB:=Lib.hid hB
  have H1:=Lib.hid h1
  have H2:=Lib.hid h2
  have H3:=Lib.hid h3
  have H4:=Lib.hid h4
  have HG:=Lib.hid g
  clear hB h1 h2 h3 h4 g
  go_enter Tryz.func194,Tryz.ntmps194
  go_wp2_with fail
  refine wp_loop_rounds 5 ?_
  rw [rounds_succ]
  have cP_0:=HCB.out.cell 0 rfl
  have cP_1:=HCB.out.cell 1 rfl
  have cP_2:=HCB.out.cell 2 rfl
  go_wp2_with fail
  refine (af1_c v1 _ (HG.out.ext (Ext.refl w)) H1.out).mono ?_;rintro e w1 ⟨rfl,e1⟩
  have HX1:Hid (Ext w w1):=Lib.hid ((Ext.refl w).trans e1)
  have HBP_1:=Lib.hid (Blk.ext HCB.out e1)
  clear e1 cP_0 cP_1 cP_2
  go_wp2_with fail
  rw [rounds_succ]
  have cP_3:=HBP_1.out.cell 3 rfl
  have cP_4:=HBP_1.out.cell 4 rfl
  have cP_5:=HBP_1.out.cell 5 rfl
  go_wp2_with fail
  refine (af1_c v2 _ (HG.out.ext HX1.out) H2.out).mono ?_;rintro e w2 ⟨rfl,e2⟩
  have HX2:Hid (Ext w w2):=Lib.hid (HX1.out.trans e2)
  have HBP_2:=Lib.hid (Blk.ext HBP_1.out e2)
  clear e2 cP_3 cP_4 cP_5
  go_wp2_with fail
  rw [rounds_succ]
  have cP_6:=HBP_2.out.cell 6 rfl
  have cP_7:=HBP_2.out.cell 7 rfl
  have cP_8:=HBP_2.out.cell 8 rfl
  go_wp2_with fail
  refine (af1_c v3 _ (HG.out.ext HX2.out) H3.out).mono ?_;rintro e w3 ⟨rfl,e3⟩
  have HX3:Hid (Ext w w3):=Lib.hid (HX2.out.trans e3)
  have HBP_3:=Lib.hid (Blk.ext HBP_2.out e3)
  clear e3 cP_6 cP_7 cP_8
  go_wp2_with fail
  rw [rounds_succ]
  have cP_9:=HBP_3.out.cell 9 rfl
  have cP_10:=HBP_3.out.cell 10 rfl
  have cP_11:=HBP_3.out.cell 11 rfl
  go_wp2_with fail
  refine (af1_c v4 _ (HG.out.ext HX3.out) H4.out).mono ?_;rintro e w4 ⟨rfl,e4⟩
  have HX4:Hid (Ext w w4):=Lib.hid (HX3.out.trans e4)
  clear e4 cP_9 cP_10 cP_11
  go_wp2_with fail
  rw [rounds_succ]
  go_wp2
  go_ret
  exact ⟨rfl,HX4.out⟩

set_option maxHeartbeats 2000000 in
theorem acf4 (v1 v2 v3 v4:V3) (kb:Nat) {ty:TypeId} (w:World) (g:Gd w) (hB:Blk w kb #[.string (qs v1.x),.string (qs v1.y),.string (qs v1.z),.string (qs v2.x),.string (qs v2.y),.string (qs v2.z),.string (qs v3.x),.string (qs v3.y),.string (qs v3.z),.string (qs v4.x),.string (qs v4.y),.string (qs v4.z)] ty) (h1:VB 200 v1) (h2:VB 200 v2) (h3:VB 200 v3) (h4:VB 200 v4):Calls Tryz.prog 173 #[.slice (some ⟨kb,0,none⟩) 4 4,.func (.func 174) #[] #[]] w (Ret w (.bool false)):=by
  have HCB:=Lib.hid hB
  have H1:=Lib.hid h1
  have H2:=Lib.hid h2
  have H3:=Lib.hid h3
  have H4:=Lib.hid h4
  have HG:=Lib.hid g
  clear hB h1 h2 h3 h4 g
  go_enter Tryz.func173,Tryz.ntmps173
  go_wp2_with fail
  refine (aix4 v1 v2 v3 v4 (kb) _ (HG.out.ext (Ext.refl w)) HCB.out H1.out H2.out H3.out H4.out).mono ?_;rintro e w1 ⟨rfl,e1⟩
  have HX1:Hid (Ext w w1):=Lib.hid ((Ext.refl w).trans e1)
  have HBP_1:=Lib.hid (Blk.ext HCB.out e1)
  clear e1
  go_wp2
  go_ret
  exact ⟨rfl,HX1.out⟩

set_option maxHeartbeats 2000000 in
theorem afirst4 (v1 v2 v3 v4:V3) (kb:Nat) {ty:TypeId} (w:World) (g:Gd w) (hB:Blk w kb #[.string (qs v1.x),.string (qs v1.y),.string (qs v1.z),.string (qs v2.x),.string (qs v2.y),.string (qs v2.z),.string (qs v3.x),.string (qs v3.y),.string (qs v3.z),.string (qs v4.x),.string (qs v4.y),.string (qs v4.z)] ty) (h1:VB 200 v1) (h2:VB 200 v2) (h3:VB 200 v3) (h4:VB 200 v4):Calls Tryz.prog 137 #[.slice (some ⟨kb,0,none⟩) 4 4] w (Ret w (.int .i64 0)):=by
  have HCB:=Lib.hid hB
  have H1:=Lib.hid h1
  have H2:=Lib.hid h2
  have H3:=Lib.hid h3
  have H4:=Lib.hid h4
  have HG:=Lib.hid g
  clear hB h1 h2 h3 h4 g
  go_enter Tryz.func137,Tryz.ntmps137
  go_wp2_with fail
  refine (acf4 v1 v2 v3 v4 (kb) _ (HG.out.ext (Ext.refl w)) HCB.out H1.out H2.out H3.out H4.out).mono ?_;rintro e w1 ⟨rfl,e1⟩
  have HX1:Hid (Ext w w1):=Lib.hid ((Ext.refl w).trans e1)
  have HBP_1:=Lib.hid (Blk.ext HCB.out e1)
  clear e1
  go_wp2
  go_ret
  exact ⟨rfl,HX1.out⟩

set_option maxHeartbeats 4000000 in
theorem acheck_c (r1 r2 r3 s:V3) (w:World) (g:Gd w) (h1:VB 200 r1) (h2:VB 200 r2) (h3:VB 200 r3) (hs:VB 200 s):Calls Tryz.prog 136 #[.agg #[.string (qs r1.x),.string (qs r1.y),.string (qs r1.z),.string (qs r2.x),.string (qs r2.y),.string (qs r2.z),.string (qs r3.x),.string (qs r3.y),.string (qs r3.z),.string (qs s.x),.string (qs s.y),.string (qs s.z)]] w (Ret w (.int .i64 0)):=by
  have H1:=Lib.hid h1
  have H2:=Lib.hid h2
  have H3:=Lib.hid h3
  have HS:=Lib.hid hs
  have HG:=Lib.hid g
  clear h1 h2 h3 hs g
  go_enter Tryz.func136,Tryz.ntmps136
  go_wp2_with fail
  refine (afirst4 r1 r2 r3 s (w.heap.size+1) _ (HG.out.ext (((Ext.refl w).alloc _).alloc _)) (Blk.new' (w:=_) (cs:=#[.string (qs r1.x),.string (qs r1.y),.string (qs r1.z),.string (qs r2.x),.string (qs r2.y),.string (qs r2.z),.string (qs r3.x),.string (qs r3.y),.string (qs r3.z),.string (qs s.x),.string (qs s.y),.string (qs s.z)]) (t:=31) (by first|rfl|(simp only [World.size_alloc];done)|(simp only [World.size_alloc];omega)|simp)) H1.out H2.out H3.out HS.out).mono ?_;rintro e w1 ⟨rfl,e1⟩
  have HX1:Hid (Ext w w1):=Lib.hid ((((Ext.refl w).alloc _).alloc _).trans e1)
  have HB1_1:Hid (Blk w1 (w.heap.size+1) #[.string (qs r1.x),.string (qs r1.y),.string (qs r1.z),.string (qs r2.x),.string (qs r2.y),.string (qs r2.z),.string (qs r3.x),.string (qs r3.y),.string (qs r3.z),.string (qs s.x),.string (qs s.y),.string (qs s.z)] 31):=Lib.hid (Blk.ext (Blk.new' (w:=_) (cs:=#[.string (qs r1.x),.string (qs r1.y),.string (qs r1.z),.string (qs r2.x),.string (qs r2.y),.string (qs r2.z),.string (qs r3.x),.string (qs r3.y),.string (qs r3.z),.string (qs s.x),.string (qs s.y),.string (qs s.z)]) (t:=31) (by first|rfl|(simp only [World.size_alloc];done)|(simp only [World.size_alloc];omega)|simp)) e1)
  have HGEB1:Hid (w.heap.size≤w.heap.size+1):=Lib.hid (by first|omega|(simp only [];omega)|(simp;omega))
  clear e1
  go_wp2
  go_ret
  exact ⟨rfl,HX1.out⟩

set_option maxHeartbeats 4000000 in
theorem acheckw_c (r1 r2 r3 s p:V3) (w:World) (g:Gd w) (h1:VB 200 r1) (h2:VB 200 r2) (h3:VB 200 r3) (hs:VB 200 s) (hp:VB 200 p):Calls Tryz.prog 83 #[.agg #[.string (qs r1.x),.string (qs r1.y),.string (qs r1.z),.string (qs r2.x),.string (qs r2.y),.string (qs r2.z),.string (qs r3.x),.string (qs r3.y),.string (qs r3.z),.string (qs s.x),.string (qs s.y),.string (qs s.z)],.agg #[.string (qs p.x),.string (qs p.y),.string (qs p.z)]] w (Ret w (.int .i64 0)):=by
  have H1:=Lib.hid h1
  have H2:=Lib.hid h2
  have H3:=Lib.hid h3
  have HS:=Lib.hid hs
  have HP:=Lib.hid hp
  have HG:=Lib.hid g
  clear h1 h2 h3 hs hp g
  go_enter Tryz.func83,Tryz.ntmps83
  go_wp2_with fail
  refine (acheck_c r1 r2 r3 s _ (HG.out.ext (((Ext.refl w).alloc _).alloc _)) H1.out H2.out H3.out HS.out).mono ?_;rintro e w1 ⟨rfl,e1⟩
  have HX1:Hid (Ext w w1):=Lib.hid ((((Ext.refl w).alloc _).alloc _).trans e1)
  have HB1_1:Hid (Blk w1 (w.heap.size+1) #[.string (qs p.x),.string (qs p.y),.string (qs p.z)] 31):=Lib.hid (Blk.ext (Blk.new' (w:=_) (cs:=#[.string (qs p.x),.string (qs p.y),.string (qs p.z)]) (t:=31) (by first|rfl|(simp only [World.size_alloc];done)|(simp only [World.size_alloc];omega)|simp)) e1)
  have HGEB1:Hid (w.heap.size≤w.heap.size+1):=Lib.hid (by first|omega|(simp only [];omega)|(simp;omega))
  clear e1
  have c1_0:=HB1_1.out.cell 0 rfl
  have c1_1:=HB1_1.out.cell 1 rfl
  have c1_2:=HB1_1.out.cell 2 rfl
  go_wp2_with fail
  refine (afirst1 p (w1.heap.size) _ (HG.out.ext (HX1.out.alloc _)) (Blk.new' (w:=_) (cs:=#[.string (qs p.x),.string (qs p.y),.string (qs p.z)]) (t:=31) (by first|rfl|(simp only [World.size_alloc];done)|(simp only [World.size_alloc];omega)|simp)) HP.out).mono ?_;rintro e w2 ⟨rfl,e2⟩
  have HX2:Hid (Ext w w2):=Lib.hid ((HX1.out.alloc _).trans e2)
  have HB2_2:Hid (Blk w2 (w1.heap.size) #[.string (qs p.x),.string (qs p.y),.string (qs p.z)] 31):=Lib.hid (Blk.ext (Blk.new' (w:=_) (cs:=#[.string (qs p.x),.string (qs p.y),.string (qs p.z)]) (t:=31) (by first|rfl|(simp only [World.size_alloc];done)|(simp only [World.size_alloc];omega)|simp)) e2)
  have HGEB2:Hid (w.heap.size≤w1.heap.size):=Lib.hid (by have:=HX1.out.size;first|omega|(simp only [];omega)|(simp;omega))
  clear e2 c1_0 c1_1 c1_2
  go_wp2
  go_ret
  exact ⟨rfl,HX2.out⟩

def add3 (a b:V3):V3:=⟨a.x+b.x,a.y+b.y,a.z+b.z⟩
theorem tadd_as (a b q:V3) (e:add3 a b=q) {k m:Nat} (w:World) (g:Gd w) (ha:VB k a) (hb:VB m b) (hk:k≤1000) (hm:m≤1000):Calls Tryz.prog 88 #[.agg #[.string (qs a.x),.string (qs a.y),.string (qs a.z)],.agg #[.string (qs b.x),.string (qs b.y),.string (qs b.z)]] w (Ret w (.agg #[.string (qs q.x),.string (qs q.y),.string (qs q.z)])):=by
  subst e;exact tadd_c a b w g ha hb hk hm

set_option maxHeartbeats 8000000 in
theorem aapply_c (r1 r2 r3 s p q:V3) (w:World) (g:Gd w) (h1:VB 60 r1) (h2:VB 60 r2) (h3:VB 60 r3) (hs:VB 60 s) (hp:VB 60 p) (hq:VB 200 q) (he:add3 ⟨dot3 r1 p,dot3 r2 p,dot3 r3 p⟩ s=q):Calls Tryz.prog 39 #[.agg #[.string (qs r1.x),.string (qs r1.y),.string (qs r1.z),.string (qs r2.x),.string (qs r2.y),.string (qs r2.z),.string (qs r3.x),.string (qs r3.y),.string (qs r3.z),.string (qs s.x),.string (qs s.y),.string (qs s.z)],.agg #[.string (qs p.x),.string (qs p.y),.string (qs p.z)]] w (Ret w (.tuple #[.agg #[.string (qs q.x),.string (qs q.y),.string (qs q.z)],.int .i64 0])):=by
  have H1:=Lib.hid h1
  have H2:=Lib.hid h2
  have H3:=Lib.hid h3
  have HS:=Lib.hid hs
  have HP:=Lib.hid hp
  have HQ:=Lib.hid hq
  have HQE:=Lib.hid he
  have HG:=Lib.hid g
  clear h1 h2 h3 hs hp hq he g
  have HDD:Hid (VB 364 ⟨dot3 r1 p,dot3 r2 p,dot3 r3 p⟩):=Lib.hid ⟨dot3_qb H1.out HP.out,dot3_qb H2.out HP.out,dot3_qb H3.out HP.out⟩
  go_enter Tryz.func39,Tryz.ntmps39
  go_wp2_with fail
  refine (acheckw_c r1 r2 r3 s p _ (HG.out.ext ((((Ext.refl w).alloc _).alloc _).alloc _)) (H1.out.mono (by decide)) (H2.out.mono (by decide)) (H3.out.mono (by decide)) (HS.out.mono (by decide)) (HP.out.mono (by decide))).mono ?_;rintro e w1 ⟨rfl,e1⟩
  have HX1:Hid (Ext w w1):=Lib.hid (((((Ext.refl w).alloc _).alloc _).alloc _).trans e1)
  have HB0_1:Hid (Blk w1 (w.heap.size) #[.string (qs r1.x),.string (qs r1.y),.string (qs r1.z),.string (qs r2.x),.string (qs r2.y),.string (qs r2.z),.string (qs r3.x),.string (qs r3.y),.string (qs r3.z),.string (qs s.x),.string (qs s.y),.string (qs s.z)] 66):=Lib.hid (Blk.ext (((Blk.new' (w:=_) (cs:=#[.string (qs r1.x),.string (qs r1.y),.string (qs r1.z),.string (qs r2.x),.string (qs r2.y),.string (qs r2.z),.string (qs r3.x),.string (qs r3.y),.string (qs r3.z),.string (qs s.x),.string (qs s.y),.string (qs s.z)]) (t:=66) (by first|rfl|(simp only [World.size_alloc];done)|(simp only [World.size_alloc];omega)|simp)).alloc _).alloc _) e1)
  have HB1_1:Hid (Blk w1 (w.heap.size+1) #[.string (qs p.x),.string (qs p.y),.string (qs p.z)] 31):=Lib.hid (Blk.ext ((Blk.new' (w:=_) (cs:=#[.string (qs p.x),.string (qs p.y),.string (qs p.z)]) (t:=31) (by first|rfl|(simp only [World.size_alloc];done)|(simp only [World.size_alloc];omega)|simp)).alloc _) e1)
  have HB2_1:Hid (Blk w1 (w.heap.size+1+1) #[.string ⟨#[]⟩,.string ⟨#[]⟩,.string ⟨#[]⟩] 31):=Lib.hid (Blk.ext (Blk.new' (w:=_) (cs:=#[.string ⟨#[]⟩,.string ⟨#[]⟩,.string ⟨#[]⟩]) (t:=31) (by first|rfl|(simp only [World.size_alloc];done)|(simp only [World.size_alloc];omega)|simp)) e1)
  have HGEB0:Hid (w.heap.size≤w.heap.size):=Lib.hid (by first|omega|(simp only [];omega)|(simp;omega))
  have HGEB1:Hid (w.heap.size≤w.heap.size+1):=Lib.hid (by first|omega|(simp only [];omega)|(simp;omega))
  have HGEB2:Hid (w.heap.size≤w.heap.size+1+1):=Lib.hid (by first|omega|(simp only [];omega)|(simp;omega))
  clear e1
  go_wp2_with fail
  refine wp_name (fun W=>Ext w W∧Blk W (w.heap.size) #[.string (qs r1.x),.string (qs r1.y),.string (qs r1.z),.string (qs r2.x),.string (qs r2.y),.string (qs r2.z),.string (qs r3.x),.string (qs r3.y),.string (qs r3.z),.string (qs s.x),.string (qs s.y),.string (qs s.z)] 66∧Blk W (w.heap.size+1) #[.string (qs p.x),.string (qs p.y),.string (qs p.z)] 31∧Blk W (w.heap.size+1+1) #[.string ⟨#[]⟩,.string ⟨#[]⟩,.string ⟨#[]⟩] 31) ⟨HX1.out,HB0_1.out,HB1_1.out,HB2_1.out⟩ ?_
  rintro w2 ⟨e2,bB0_2,bB1_2,bB2_2⟩
  have HX2:=Lib.hid e2;have HB0_2:=Lib.hid bB0_2;have HB1_2:=Lib.hid bB1_2;have HB2_2:=Lib.hid bB2_2
  clear e2 bB0_2 bB1_2 bB2_2
  refine region_lin_s (X:=w) [⟨w.heap.size+1+1,#[.string ⟨#[]⟩,.string ⟨#[]⟩,.string ⟨#[]⟩],#[.string (qs q.x),.string (qs q.y),.string (qs q.z)],31⟩] [.val (.agg #[.string (qs r1.x),.string (qs r1.y),.string (qs r1.z),.string (qs r2.x),.string (qs r2.y),.string (qs r2.z),.string (qs r3.x),.string (qs r3.y),.string (qs r3.z),.string (qs s.x),.string (qs s.y),.string (qs s.z)]),.val (.agg #[.string (qs r1.x),.string (qs r1.y),.string (qs r1.z),.string (qs r2.x),.string (qs r2.y),.string (qs r2.z),.string (qs r3.x),.string (qs r3.y),.string (qs r3.z)]),.val (.agg #[.string (qs p.x),.string (qs p.y),.string (qs p.z)]),.val (.agg #[.string (qs p.x),.string (qs p.y),.string (qs p.z)]),.val (.agg #[.string (qs (dot3 r1 p)),.string (qs (dot3 r2 p)),.string (qs (dot3 r3 p))]),.val (.pointer (some ⟨w.heap.size,9,none⟩)),.val (.agg #[.string (qs s.x),.string (qs s.y),.string (qs s.z)]),.val (.agg #[.string (qs s.x),.string (qs s.y),.string (qs s.z)]),.val (.agg #[.string (qs q.x),.string (qs q.y),.string (qs q.z)]),.val (.tuple #[.agg #[.string (qs q.x),.string (qs q.y),.string (qs q.z)],.int .i64 0]),.val (.agg #[.string (qs q.x),.string (qs q.y),.string (qs q.z)]),.val (.int .i64 0),.st 0,.val (.int .i64 0)] (by kernel_rfl) (by kernel_rfl) (by kernel_rfl) HX2.out.drew (List.forall_mem_cons.2 ⟨⟨HGEB2.out,HB2_2.out.drew⟩,(fun _ h=>by cases h)⟩) dis1 ?_ (fun g2 w3 hx_ hk_ hb_ hm_ hne_=>?_)
  · skip
    refine RnL.cons (fun g2 A_ W_ hs_=>?_) ?_
    · have q2_:=(hs_.old 2 (by kernel_rfl):A_.tmps[2]?.getD undef = .pointer (some ⟨w.heap.size,0,none⟩))
      have cB0_0:=((hs_.keep (fm2 (show w.heap.size+1+1≠w.heap.size from by first|omega|(simp only [];omega)|(simp;omega)) fm0) HB0_2.out.drew)).cell 0 rfl
      have cB0_1:=((hs_.keep (fm2 (show w.heap.size+1+1≠w.heap.size from by first|omega|(simp only [];omega)|(simp;omega)) fm0) HB0_2.out.drew)).cell 1 rfl
      have cB0_2:=((hs_.keep (fm2 (show w.heap.size+1+1≠w.heap.size from by first|omega|(simp only [];omega)|(simp;omega)) fm0) HB0_2.out.drew)).cell 2 rfl
      have cB0_3:=((hs_.keep (fm2 (show w.heap.size+1+1≠w.heap.size from by first|omega|(simp only [];omega)|(simp;omega)) fm0) HB0_2.out.drew)).cell 3 rfl
      have cB0_4:=((hs_.keep (fm2 (show w.heap.size+1+1≠w.heap.size from by first|omega|(simp only [];omega)|(simp;omega)) fm0) HB0_2.out.drew)).cell 4 rfl
      have cB0_5:=((hs_.keep (fm2 (show w.heap.size+1+1≠w.heap.size from by first|omega|(simp only [];omega)|(simp;omega)) fm0) HB0_2.out.drew)).cell 5 rfl
      have cB0_6:=((hs_.keep (fm2 (show w.heap.size+1+1≠w.heap.size from by first|omega|(simp only [];omega)|(simp;omega)) fm0) HB0_2.out.drew)).cell 6 rfl
      have cB0_7:=((hs_.keep (fm2 (show w.heap.size+1+1≠w.heap.size from by first|omega|(simp only [];omega)|(simp;omega)) fm0) HB0_2.out.drew)).cell 7 rfl
      have cB0_8:=((hs_.keep (fm2 (show w.heap.size+1+1≠w.heap.size from by first|omega|(simp only [];omega)|(simp;omega)) fm0) HB0_2.out.drew)).cell 8 rfl
      have cB0_9:=((hs_.keep (fm2 (show w.heap.size+1+1≠w.heap.size from by first|omega|(simp only [];omega)|(simp;omega)) fm0) HB0_2.out.drew)).cell 9 rfl
      have cB0_10:=((hs_.keep (fm2 (show w.heap.size+1+1≠w.heap.size from by first|omega|(simp only [];omega)|(simp;omega)) fm0) HB0_2.out.drew)).cell 10 rfl
      have cB0_11:=((hs_.keep (fm2 (show w.heap.size+1+1≠w.heap.size from by first|omega|(simp only [];omega)|(simp;omega)) fm0) HB0_2.out.drew)).cell 11 rfl
      refine Rn.val fun K_ hK_=>?_
      go_simp
      exact hK_.out _ (Ext.refl _)
    refine RnL.cons (fun g2 A_ W_ hs_=>?_) ?_
    · have q14_:=hs_.val 0 rfl rfl rfl
      refine Rn.val fun K_ hK_=>?_
      go_simp
      refine (arows_c r1 r2 r3 s _ (HG.out.ext hs_.1)).mono ?_;rintro e W9_ ⟨rfl,e9_⟩;exact hK_.out _ e9_
    refine RnL.cons (fun g2 A_ W_ hs_=>?_) ?_
    · have q3_:=(hs_.old 3 (by kernel_rfl):A_.tmps[3]?.getD undef = .pointer (some ⟨w.heap.size+1,0,none⟩))
      have cB1_0:=((hs_.keep (fm2 (show w.heap.size+1+1≠w.heap.size+1 from by first|omega|(simp only [];omega)|(simp;omega)) fm0) HB1_2.out.drew)).cell 0 rfl
      have cB1_1:=((hs_.keep (fm2 (show w.heap.size+1+1≠w.heap.size+1 from by first|omega|(simp only [];omega)|(simp;omega)) fm0) HB1_2.out.drew)).cell 1 rfl
      have cB1_2:=((hs_.keep (fm2 (show w.heap.size+1+1≠w.heap.size+1 from by first|omega|(simp only [];omega)|(simp;omega)) fm0) HB1_2.out.drew)).cell 2 rfl
      refine Rn.val fun K_ hK_=>?_
      go_simp
      exact hK_.out _ (Ext.refl _)
    refine RnL.cons (fun g2 A_ W_ hs_=>?_) ?_
    · have q16_:=hs_.val 2 rfl rfl rfl
      refine Rn.val fun K_ hK_=>?_
      go_simp
      refine (aof_c p _ (HG.out.ext hs_.1)).mono ?_;rintro e W9_ ⟨rfl,e9_⟩;exact hK_.out _ e9_
    refine RnL.cons (fun g2 A_ W_ hs_=>?_) ?_
    · have q15_:=hs_.val 1 rfl rfl rfl
      have q17_:=hs_.val 3 rfl rfl rfl
      refine Rn.val fun K_ hK_=>?_
      go_simp
      refine (gapply_c r1 r2 r3 p _ (HG.out.ext hs_.1) H1.out H2.out H3.out HP.out (by decide) (by decide)).mono ?_;rintro e W9_ ⟨rfl,e9_⟩;exact hK_.out _ e9_
    refine RnL.cons (fun g2 A_ W_ hs_=>?_) ?_
    · have q2_:=(hs_.old 2 (by kernel_rfl):A_.tmps[2]?.getD undef = .pointer (some ⟨w.heap.size,0,none⟩))
      refine Rn.val fun K_ hK_=>?_
      go_simp
      exact hK_.out _ (Ext.refl _)
    refine RnL.cons (fun g2 A_ W_ hs_=>?_) ?_
    · have q19_:=hs_.val 5 rfl rfl rfl
      have cB0_9:=((hs_.keep (fm2 (show w.heap.size+1+1≠w.heap.size from by first|omega|(simp only [];omega)|(simp;omega)) fm0) HB0_2.out.drew)).cell 9 rfl
      have cB0_10:=((hs_.keep (fm2 (show w.heap.size+1+1≠w.heap.size from by first|omega|(simp only [];omega)|(simp;omega)) fm0) HB0_2.out.drew)).cell 10 rfl
      have cB0_11:=((hs_.keep (fm2 (show w.heap.size+1+1≠w.heap.size from by first|omega|(simp only [];omega)|(simp;omega)) fm0) HB0_2.out.drew)).cell 11 rfl
      refine Rn.val fun K_ hK_=>?_
      go_simp
      exact hK_.out _ (Ext.refl _)
    refine RnL.cons (fun g2 A_ W_ hs_=>?_) ?_
    · have q20_:=hs_.val 6 rfl rfl rfl
      refine Rn.val fun K_ hK_=>?_
      go_simp
      refine (aof_c s _ (HG.out.ext hs_.1)).mono ?_;rintro e W9_ ⟨rfl,e9_⟩;exact hK_.out _ e9_
    refine RnL.cons (fun g2 A_ W_ hs_=>?_) ?_
    · have q18_:=hs_.val 4 rfl rfl rfl
      have q21_:=hs_.val 7 rfl rfl rfl
      refine Rn.val fun K_ hK_=>?_
      go_simp
      refine (tadd_as ⟨dot3 r1 p,dot3 r2 p,dot3 r3 p⟩ s q HQE.out _ (HG.out.ext hs_.1) HDD.out HS.out (by decide) (by decide)).mono ?_;rintro e W9_ ⟨rfl,e9_⟩;exact hK_.out _ e9_
    refine RnL.cons (fun g2 A_ W_ hs_=>?_) ?_
    · have q22_:=hs_.val 8 rfl rfl rfl
      refine Rn.val fun K_ hK_=>?_
      go_simp
      refine (aplace_c q _ (HG.out.ext hs_.1) HQ.out).mono ?_;rintro e W9_ ⟨rfl,e9_⟩;exact hK_.out _ e9_
    refine RnL.cons (fun g2 A_ W_ hs_=>?_) ?_
    · have q23_:=hs_.val 9 rfl rfl rfl
      refine Rn.val fun K_ hK_=>?_
      go_simp
      exact hK_.out _ (Ext.refl _)
    refine RnL.cons (fun g2 A_ W_ hs_=>?_) ?_
    · have q23_:=hs_.val 9 rfl rfl rfl
      refine Rn.val fun K_ hK_=>?_
      go_simp
      exact hK_.out _ (Ext.refl _)
    refine RnL.cons (fun g2 A_ W_ hs_=>?_) ?_
    · have q4_:=(hs_.old 4 (by kernel_rfl):A_.tmps[4]?.getD undef = .pointer (some ⟨w.heap.size+1+1,0,none⟩))
      have q24_:=hs_.val 10 rfl rfl rfl
      refine Rn.st (n:=0) rfl fun hB0 K_ hK_=>?_
      have hB:Blk W_ (w.heap.size+1+1) #[.string ⟨#[]⟩,.string ⟨#[]⟩,.string ⟨#[]⟩] 31:=hB0;clear hB0
      have c_0:=hB.cell 0 rfl;have f_0:=hB.free 0
      have c_1:=hB.cell 1 rfl;have f_1:=hB.free 1
      have c_2:=hB.cell 2 rfl;have f_2:=hB.free 2
      have HB:=Lib.hid hB;clear hB
      go_simp
      exact hK_.out _ ((((Only.refl _ _).set 0 _).set 1 _).set 2 _) (((HB.out.set 0 _).set 1 _).set 2 _)
    refine RnL.cons (fun g2 A_ W_ hs_=>?_) ?_
    · have q25_:=hs_.val 11 rfl rfl rfl
      refine Rn.val fun K_ hK_=>?_
      go_simp
      exact hK_.out _ (Ext.refl _)
    exact RnL.nil
  simp only [fs,Kd.value,puts,Act.put,List.setIfInBounds_toArray,List.set_cons_zero,List.set_cons_succ]
  have HX3:Hid (Ext w w3):=Lib.hid hx_
  have HB2_3:Hid (Blk w3 (w.heap.size+1+1) #[.string (qs q.x),.string (qs q.y),.string (qs q.z)] 31):=Lib.hid (hb_ 0 _ rfl)
  clear hx_ hm_ hne_ hk_ hb_
  go_wp2_with fail
  have gB2_0:=HB2_3.out.cell 0 rfl
  have gB2_1:=HB2_3.out.cell 1 rfl
  have gB2_2:=HB2_3.out.cell 2 rfl
  refine bodyPost_ret (v:=.tuple #[.agg #[.string (qs q.x),.string (qs q.y),.string (qs q.z)],.int .i64 0]) (by simp [results,Tryz.results39,go_sem,gB2_0,gB2_1,gB2_2]) rfl ⟨rfl,HX3.out⟩
end Go.Proofs.YtjeimihnoiephaaGreatDoor
