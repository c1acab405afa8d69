/- Part 35 of the proof: M16. -/
import Derived.Test.YtjeimihnoiephaaGreatDoorQZ31
import Derived.Test.YtjeimihnoiephaaGreatDoorQZ34
set_option maxRecDepth 100000
namespace Go.Proofs.YtjeimihnoiephaaGreatDoor
open Go Go.RowKit
set_option linter.unusedVariables false
theorem about_keeps {t:Q4} {v R S r1 r2 r3:V3} (eR:rot t v=R) (eS:sub3 v R=S) (e1:row1 t=r1) (e2:row2 t=r2) (e3:row3 t=r3):add3 ⟨dot3 r1 v,dot3 r2 v,dot3 r3 v⟩ S=v:=by
  subst eS;subst eR;subst e1;subst e2;subst e3
  unfold add3 sub3 rot
  cases v
  simp only [V3.mk.injEq]
  refine ⟨?_,?_,?_⟩ <;> grind
theorem rows_qbS {t:Q4} (h:Q4In t) (hz:¬ t.zero):VB 60 (row1 t)∧VB 60 (row2 t)∧VB 60 (row3 t):=by
  have:=rows_qb h hz
  exact ⟨this.1.mono (by decide),this.2.1.mono (by decide),this.2.2.mono (by decide)⟩
theorem na0:(0:Int).natAbs<100000:=by simp
inductive PyOut (i k:Int):Prop
  | zero (hi:i=0) (hk:k=0)
  | some (u : Q4) (hi : Q4In u) (hz : ¬ u.zero) (hu : rot u (pyv i k) = iv 0 0 (i * i + k * k)) (hn : ¬ (i = 0 ∧ k = 0))
      (hc:∀ (w:World) (g:Gd w),Calls Tryz.prog 40 #[.agg #[.string (qs ((pyv i k).x)),.string (qs ((pyv i k).y)),.string (qs ((pyv i k).z))]] w (Ret w (.tuple #[.agg #[.int .i64 u.w,.int .i64 u.x,.int .i64 u.y,.int .i64 u.z],.int .i64 0])))
theorem py_out {i k:Int} (hi:-9≤i∧i≤9) (hk:-9≤k∧k≤9):PyOut i k:=by
  have hii:=mul9 hi hi;have hkk:=mul9 hk hk
  have pi:=sqi_nonneg i;have pk:=sqi_nonneg k
  have hv:=py_vb hi hk
  obtain ⟨r,hr⟩:∃ r:Nat,(r:Int)=i*i+k*k:=⟨(i*i+k*k).toNat,by omega⟩
  have hX:((r*r:Nat):Int)=(i*i+k*k)*(i*i+k*k):=by rw [Int.natCast_mul,hr]
  have hd:dot3 (pyv i k) (pyv i k)=(((i*i+k*k)*(i*i+k*k):Int):Rat):=by
    rw [Rat.intCast_mul,py_sq];rfl
  have hl:((i*i+k*k:Int):Rat)=((r:Int):Rat):=by rw [hr]
  have hrr:r*r<1000000000:=by
    have:r≤162:=by omega
    have:=Nat.mul_le_mul this this
    omega
  by_cases h0:i=0
  · by_cases h1:k=0
    · exact .zero h0 h1
    · have hp:=sqi_pos h1
      subst h0
      have h00:=py_0 (i:=0) (k:=k) (by simp)
      have hz0:(pyv 0 k).z≠0:=by
        unfold pyv
        intro e
        have:=Rat.intCast_eq_zero_iff.1 e
        omega
      refine .some ⟨0,1,0,0⟩ ⟨by decide,by decide,by decide,by decide⟩ (by rintro ⟨_,h,_⟩;exact absurd h (by decide)) (py_flip k) (fun h=>h1 h.2) ?_
      intro w g
      exact runt_flip (pyv 0 k) _ r _ _ hX w g (by omega) hrr hv (by decide) hd hl (py_w 0 k) h00.1 h00.2 hz0 (by simp)
  · have hp:=sqi_pos h0
    have hwp:(0:Rat)<((2*(i*i):Int):Rat):=Rat.intCast_pos.2 (by omega)
    have hnz:=num4_nz (x:=((2*(i*i):Int):Rat)) (y:=(pyv i k).y) (z:=-(pyv i k).x) (u:=0) (fun h=>absurd h.1 (Rat.ne_of_gt hwp))
    refine .some _ (py_in hi hk) (prim4_nz hnz) (py_up h0) (fun h=>h0 h.1) ?_
    intro w g
    by_cases h1:k=0
    · subst h1
      have h00:=py_0 (i:=i) (k:=0) (by simp)
      have hz0:(pyv i 0).z≠0:=by
        unfold pyv
        intro e
        have:=Rat.intCast_eq_zero_iff.1 e
        omega
      exact runt_w0 (pyv i 0) _ _ _ r _ _ hX w g (by omega) hrr hv (by decide) hd hl (py_w i 0) rfl hwp rfl (py_in hi hk) h00.1 h00.2 hz0
    · exact runt_w1 (pyv i k) _ _ _ r _ _ hX w g (by omega) hrr hv (by decide) hd hl (py_w i k) rfl hwp rfl (py_in hi hk) (py_x h0 h1)
theorem py_z0:(pyv 0 0).x=0∧(pyv 0 0).y=0∧(pyv 0 0).z=0:=⟨(py_0 (by decide)).1,(py_0 (by decide)).2,by unfold pyv;simp⟩
theorem tmod10' (i:Int):-9≤i.tmod 10∧i.tmod 10≤9:=by
  have h:=Int.natAbs_tmod i 10
  have:=Nat.mod_lt i.natAbs (y:=10) (by decide)
  simp only [show (10:Int).natAbs=10 from rfl] at h
  omega

set_option maxHeartbeats 32000000 in
theorem keeps17_okU (n0 n1 n2 n3:Int) (p:Pla) (y0 y1:Int) (i k:Int) (u:Q4) (w:World) (g:Gd w) (hn0:-128≤n0∧n0≤127) (hn1:-128≤n1∧n1≤127) (hn2:-128≤n2∧n2≤127) (hn3:-128≤n3∧n3≤127) (hp:PlaOk p) (hy0:-128≤y0∧y0≤127) (hy1:-128≤y1∧y1≤127) (ey0:y0.tmod 10=i) (ey1:y1.tmod 10=k) (hz:¬ ((iv (prim4 (mk4 n0 n1 n2 n3)).x (prim4 (mk4 n0 n1 n2 n3)).y (prim4 (mk4 n0 n1 n2 n3)).z).x=0∧(iv (prim4 (mk4 n0 n1 n2 n3)).x (prim4 (mk4 n0 n1 n2 n3)).y (prim4 (mk4 n0 n1 n2 n3)).z).y=0∧(iv (prim4 (mk4 n0 n1 n2 n3)).x (prim4 (mk4 n0 n1 n2 n3)).y (prim4 (mk4 n0 n1 n2 n3)).z).z=0)) (hui:Q4In u) (huz:¬ u.zero) (hu:rot u (pyv i k)=iv 0 0 (i*i+k*k)) (hc:∀ (w:World) (g:Gd w),Calls Tryz.prog 40 #[.agg #[.string (qs ((pyv i k).x)),.string (qs ((pyv i k).y)),.string (qs ((pyv i k).z))]] w (Ret w (.tuple #[.agg #[.int .i64 u.w,.int .i64 u.x,.int .i64 u.y,.int .i64 u.z],.int .i64 0]))):Calls Tryz.prog 9 #[.agg #[.int .i8 n0,.int .i8 n1,.int .i8 n2,.int .i8 n3],.agg #[.int .i16 p.n0,.int .u8 (p.d0:Int),.int .i16 p.n1,.int .u8 (p.d1:Int),.int .i16 p.n2,.int .u8 (p.d2:Int)],.agg #[.int .i8 y0,.int .i8 y1]] w (Ret w (.bool true)):=by
  have Hp:=Lib.hid hp
  have HG:=Lib.hid g
  clear hp g
  have HtB:Hid ((-128≤n0∧n0≤127)∧(-128≤n1∧n1≤127)∧(-128≤n2∧n2≤127)∧(-128≤n3∧n3≤127)):=Lib.hid ⟨hn0,hn1,hn2,hn3⟩
  clear hn0 hn1 hn2 hn3
  obtain ⟨t,et⟩:∃ t,mk4 n0 n1 n2 n3=t:=⟨_,rfl⟩
  have HtE:=Lib.hid et;have HtS:Hid (Q4S t):=Lib.hid (et▸mk4_s n0 n1 n2 n3);have HtZ:Hid (¬ t.zero):=Lib.hid (et▸mk4_nz n0 n1 n2 n3);clear et
  have HtI:Hid (Q4In t):=Lib.hid HtS.out.inn;have HtQ:Hid (QErr t 0):=Lib.hid (.ok HtI.out HtZ.out)
  obtain ⟨c,ec⟩:∃ c,pvec p=c:=⟨_,rfl⟩
  have HcE:=Lib.hid ec;have Hc:Hid (VB 5 c):=Lib.hid (ec▸Hp.out.v);clear ec
  obtain ⟨p9,ep9⟩:∃ x,prim4 t=x:=⟨_,rfl⟩
  have Hp9E:=Lib.hid ep9;clear ep9
  have HPS:Hid (Q4S p9):=Lib.hid (Hp9E.out▸prim4_s HtS.out)
  obtain ⟨A,eA⟩:∃ x,iv p9.x p9.y p9.z=x:=⟨_,rfl⟩
  have HAE:=Lib.hid eA;clear eA
  have HPN:Hid (p9.x.natAbs<100000∧p9.y.natAbs<100000∧p9.z.natAbs<100000):=Lib.hid ⟨by have:=HPS.out.x;omega,by have:=HPS.out.y;omega,by have:=HPS.out.z;omega⟩
  have HAV:Hid (VB 2 A):=Lib.hid (by rw [← HAE.out];exact ⟨QB.int ⟨by have:=HPS.out.x;omega⟩ (by decide),QB.int ⟨by have:=HPS.out.y;omega⟩ (by decide),QB.int ⟨by have:=HPS.out.z;omega⟩ (by decide)⟩)
  obtain ⟨r1,er1⟩:∃ x,row1 t=x:=⟨_,rfl⟩
  have Hr1E:=Lib.hid er1;clear er1
  obtain ⟨r2,er2⟩:∃ x,row2 t=x:=⟨_,rfl⟩
  have Hr2E:=Lib.hid er2;clear er2
  obtain ⟨r3,er3⟩:∃ x,row3 t=x:=⟨_,rfl⟩
  have Hr3E:=Lib.hid er3;clear er3
  obtain ⟨Rc,eRc⟩:∃ x,rot t c=x:=⟨_,rfl⟩
  have HRcE:=Lib.hid eRc;clear eRc
  obtain ⟨S,eS⟩:∃ x,sub3 c Rc=x:=⟨_,rfl⟩
  have HSE:=Lib.hid eS;clear eS
  have HRc:Hid (VB 31 Rc):=Lib.hid (HRcE.out▸rot_qbS HtS.out HtZ.out Hc.out)
  have HS:Hid (VB 60 S):=Lib.hid ((HSE.out▸sub3_vb Hc.out HRc.out:VB 37 S).mono (by decide))
  have HRW:Hid (VB 60 r1∧VB 60 r2∧VB 60 r3):=Lib.hid (by rw [← Hr1E.out,← Hr2E.out,← Hr3E.out];exact rows_qbS HtI.out HtZ.out)
  have wy0_:IntKind.i64.wrap y0=y0:=IntWalk.i64_in y0 (by omega)
  have wy1_:IntKind.i64.wrap y1=y1:=IntWalk.i64_in y1 (by omega)
  have HUI:=Lib.hid hui;have HUZ:=Lib.hid huz;have HUU:=Lib.hid hu;have HUC:=Lib.hid hc;clear hui huz hu hc
  have bi:-9≤i∧i≤9:=ey0▸tmod10' y0
  have bk:-9≤k∧k≤9:=ey1▸tmod10' y1
  have HBI:=Lib.hid bi;have HBK:=Lib.hid bk
  have m2:-18≤2*i∧2*i≤18:=by omega
  have mik:=mul9 bi bk;have mii:=mul9 bi bi;have mkk:=mul9 bk bk
  have m2k:2*i*k=2*(i*k):=Int.mul_assoc 2 i k
  have wz0_:IntKind.i64.wrap (2*i)=2*i:=IntWalk.i64_in _ (by omega)
  have wz1_:IntKind.i64.wrap (2*i*k)=2*i*k:=IntWalk.i64_in _ (by omega)
  have wz2_:IntKind.i64.wrap (i*i)=i*i:=IntWalk.i64_in _ (by omega)
  have wz3_:IntKind.i64.wrap (k*k)=k*k:=IntWalk.i64_in _ (by omega)
  have wz4_:IntKind.i64.wrap (i*i-k*k)=i*i-k*k:=IntWalk.i64_in _ (by omega)
  have wz5_:IntKind.i64.wrap (i*i+k*k)=i*i+k*k:=IntWalk.i64_in _ (by omega)
  have HIB:Hid ((2*i*k).natAbs<100000∧(i*i-k*k).natAbs<100000∧(i*i+k*k).natAbs<100000):=Lib.hid ⟨by omega,by omega,by omega⟩
  clear m2k
  have HIV:Hid (VB 5 (iv (2*i*k) 0 (i*i-k*k))):=Lib.hid (iv_vb HIB.out.1 na0 HIB.out.2.1)
  have HPV:=Lib.hid (py_vb HBI.out HBK.out)
  obtain ⟨V0,eV0⟩:∃ x,iv (2*i*k) 0 (i*i-k*k)=x:=⟨_,rfl⟩
  have HV0E:=Lib.hid eV0;clear eV0
  obtain ⟨V1,eV1⟩:∃ x,pyv i k=x:=⟨_,rfl⟩
  have HV1E:=Lib.hid eV1;clear eV1
  obtain ⟨V2,eV2⟩:∃ x,iv 0 0 (i*i+k*k)=x:=⟨_,rfl⟩
  have HV2E:=Lib.hid eV2;clear eV2
  have HV0:Hid (VB 5 V0):=Lib.hid (HV0E.out▸HIV.out)
  have HV1:Hid (VB 25 V1):=Lib.hid (HV1E.out▸HPV.out)
  have HT1:Hid (rot ⟨3,0,0,1⟩ V0=V1):=Lib.hid (by rw [← HV0E.out,← HV1E.out];exact py_rot i k)
  have HNZ:Hid (¬ (A.x=0∧A.y=0∧A.z=0)):=Lib.hid (by rw [← HAE.out,← Hp9E.out,← HtE.out];exact hz)
  clear hz
  obtain ⟨B,eB⟩:∃ x,vprim A=x:=⟨_,rfl⟩
  have HBE:=Lib.hid eB;clear eB
  have HBV:Hid (VB 18 B):=Lib.hid (HBE.out▸vprim_vb2 HNZ.out HAV.out)
  have HBS:Hid (rot t B=B):=Lib.hid (axis_stays HtZ.out Hp9E.out HAE.out HBE.out HNZ.out)
  go_enter Tryz.func9,Tryz.ntmps9
  go_wp2_with fail
  refine (known17_c _ (HG.out.ext ((((Ext.refl w).alloc _).alloc _).alloc _))).mono ?_;rintro e w1 ⟨rfl,e1⟩
  have HX1:Hid (Ext w w1):=Lib.hid (((((Ext.refl w).alloc _).alloc _).alloc _).trans e1)
  have HB0_1:Hid (Blk w1 (w.heap.size) #[.int .i8 n0,.int .i8 n1,.int .i8 n2,.int .i8 n3] 49):=Lib.hid (Blk.ext (((Blk.new' (w:=_) (cs:=#[.int .i8 n0,.int .i8 n1,.int .i8 n2,.int .i8 n3]) (t:=49) (by first|rfl|(simp only [World.size_alloc];done)|(simp only [World.size_alloc];omega)|simp)).alloc _).alloc _) e1)
  have HB1_1:Hid (Blk w1 (w.heap.size+1) #[.int .i16 p.n0,.int .u8 (p.d0:Int),.int .i16 p.n1,.int .u8 (p.d1:Int),.int .i16 p.n2,.int .u8 (p.d2:Int)] 54):=Lib.hid (Blk.ext ((Blk.new' (w:=_) (cs:=#[.int .i16 p.n0,.int .u8 (p.d0:Int),.int .i16 p.n1,.int .u8 (p.d1:Int),.int .i16 p.n2,.int .u8 (p.d2:Int)]) (t:=54) (by first|rfl|(simp only [World.size_alloc];done)|(simp only [World.size_alloc];omega)|simp)).alloc _) e1)
  have HB2_1:Hid (Blk w1 (w.heap.size+1+1) #[.int .i8 y0,.int .i8 y1] 80):=Lib.hid (Blk.ext (Blk.new' (w:=_) (cs:=#[.int .i8 y0,.int .i8 y1]) (t:=80) (by first|rfl|(simp only [World.size_alloc];done)|(simp only [World.size_alloc];omega)|simp)) e1)
  have HGEB0:Hid (w.heap.size≤w.heap.size):=Lib.hid (Nat.le_refl _)
  have HGEB1:Hid (w.heap.size≤w.heap.size+1):=Lib.hid (by omega)
  have HGEB2:Hid (w.heap.size≤w.heap.size+1+1):=Lib.hid (by omega)
  clear e1
  go_wp2_with fail
  refine wp_name (fun W=>Ext w W∧Blk W (w.heap.size) #[.int .i8 n0,.int .i8 n1,.int .i8 n2,.int .i8 n3] 49∧Blk W (w.heap.size+1) #[.int .i16 p.n0,.int .u8 (p.d0:Int),.int .i16 p.n1,.int .u8 (p.d1:Int),.int .i16 p.n2,.int .u8 (p.d2:Int)] 54∧Blk W (w.heap.size+1+1) #[.int .i8 y0,.int .i8 y1] 80) ⟨HX1.out,HB0_1.out,HB1_1.out,HB2_1.out⟩ ?_
  rintro w2 ⟨e2,bB0_2,bB1_2,bB2_2⟩
  have HX2:=Lib.hid e2;have HB0_2:=Lib.hid bB0_2;have HB1_2:=Lib.hid bB1_2;have HB2_2:=Lib.hid bB2_2
  clear e2 bB0_2 bB1_2 bB2_2
  refine region_lin [.val (.agg #[.int .i8 n0,.int .i8 n1,.int .i8 n2,.int .i8 n3]),.val (.agg #[.int .i64 t.w,.int .i64 t.x,.int .i64 t.y,.int .i64 t.z]),.val (.agg #[.int .i16 p.n0,.int .u8 (p.d0:Int),.int .i16 p.n1,.int .u8 (p.d1:Int),.int .i16 p.n2,.int .u8 (p.d2:Int)]),.val (.agg #[.string (qs c.x),.string (qs c.y),.string (qs c.z)]),.mem (fun b_ => .pointer (some ⟨b_,0,none⟩)) #[.int .i64 0,.int .i64 0,.int .i64 0,.int .i64 0] 22 (Option.some 6),.mem (fun b_ => .pointer (some ⟨b_,0,none⟩)) #[.string ⟨#[]⟩,.string ⟨#[]⟩,.string ⟨#[]⟩] 31 (Option.some 7),.put 4 #[.int .i64 t.w,.int .i64 t.x,.int .i64 t.y,.int .i64 t.z],.put 5 #[.string (qs c.x),.string (qs c.y),.string (qs c.z)]] (by kernel_rfl) (by kernel_rfl) (by kernel_rfl) ?_ (fun g2 w3 hx_ hm_ hne_=>?_)
  · skip
    refine RnL.cons (fun g2 A_ W_ hs_=>?_) ?_
    · have q3_:=(hs_.old 3 (by kernel_rfl):A_.tmps[3]?.getD undef = .pointer (some ⟨w.heap.size,0,none⟩))
      have cB0_0:=((HB0_2.out.drew.ext hs_.1)).cell 0 rfl
      have cB0_1:=((HB0_2.out.drew.ext hs_.1)).cell 1 rfl
      have cB0_2:=((HB0_2.out.drew.ext hs_.1)).cell 2 rfl
      have cB0_3:=((HB0_2.out.drew.ext hs_.1)).cell 3 rfl
      refine Rn.val fun K_ hK_=>?_
      go_simp
      exact hK_.out _ (Ext.refl _)
    refine RnL.cons (fun g2 A_ W_ hs_=>?_) ?_
    · have q28_:=hs_.val 0 rfl rfl rfl
      refine Rn.val fun K_ hK_=>?_
      go_simp
      refine (mk4_c n0 n1 n2 n3 t _ (HG.out.ext (HX2.out.drew.trans hs_.1)) HtB.out.1 HtB.out.2.1 HtB.out.2.2.1 HtB.out.2.2.2 HtE.out).mono ?_;rintro e W9_ ⟨rfl,e9_⟩;exact hK_.out _ e9_
    refine RnL.cons (fun g2 A_ W_ hs_=>?_) ?_
    · have q4_:=(hs_.old 4 (by kernel_rfl):A_.tmps[4]?.getD undef = .pointer (some ⟨w.heap.size+1,0,none⟩))
      have cB1_0:=((HB1_2.out.drew.ext hs_.1)).cell 0 rfl
      have cB1_1:=((HB1_2.out.drew.ext hs_.1)).cell 1 rfl
      have cB1_2:=((HB1_2.out.drew.ext hs_.1)).cell 2 rfl
      have cB1_3:=((HB1_2.out.drew.ext hs_.1)).cell 3 rfl
      have cB1_4:=((HB1_2.out.drew.ext hs_.1)).cell 4 rfl
      have cB1_5:=((HB1_2.out.drew.ext hs_.1)).cell 5 rfl
      refine Rn.val fun K_ hK_=>?_
      go_simp
      exact hK_.out _ (Ext.refl _)
    refine RnL.cons (fun g2 A_ W_ hs_=>?_) ?_
    · have q30_:=hs_.val 2 rfl rfl rfl
      refine Rn.val fun K_ hK_=>?_
      go_simp
      refine ((HcE.out▸make_c p _ (HG.out.ext (HX2.out.drew.trans hs_.1)) Hp.out)).mono ?_;rintro e W9_ ⟨rfl,e9_⟩;exact hK_.out _ e9_
    refine RnL.cons (fun g2 A_ W_ hs_=>?_) ?_
    · refine Rn.mem fun K_ hK_=>?_
      go_simp
      exact hK_.out
    refine RnL.cons (fun g2 A_ W_ hs_=>?_) ?_
    · refine Rn.mem fun K_ hK_=>?_
      go_simp
      exact hK_.out
    refine RnL.cons (fun g2 A_ W_ hs_=>?_) ?_
    · have q7_:=(hs_.mem 4 rfl rfl rfl).1
      have q29_:=hs_.val 1 rfl rfl rfl
      refine Rn.put (z:=#[.int .i64 0,.int .i64 0,.int .i64 0,.int .i64 0]) (t:=22) rfl fun hB K_ hK_=>?_
      have c_0:=hB.cell 0 rfl;have f_0:=hB.free 0
      have c_1:=hB.cell 1 rfl;have f_1:=hB.free 1
      have c_2:=hB.cell 2 rfl;have f_2:=hB.free 2
      have c_3:=hB.cell 3 rfl;have f_3:=hB.free 3
      have HB:=Lib.hid hB;clear hB
      go_simp
      exact hK_.out _ (((((Only.refl _ _).set 0 _).set 1 _).set 2 _).set 3 _) ((((HB.out.set 0 _).set 1 _).set 2 _).set 3 _)
    refine RnL.cons (fun g2 A_ W_ hs_=>?_) ?_
    · have q8_:=(hs_.mem 5 rfl rfl rfl).1
      have q31_:=hs_.val 3 rfl rfl rfl
      refine Rn.put (z:=#[.string ⟨#[]⟩,.string ⟨#[]⟩,.string ⟨#[]⟩]) (t:=31) rfl fun hB K_ hK_=>?_
      have c_0:=hB.cell 0 rfl;have f_0:=hB.free 0
      have c_1:=hB.cell 1 rfl;have f_1:=hB.free 1
      have c_2:=hB.cell 2 rfl;have f_2:=hB.free 2
      have HB:=Lib.hid hB;clear hB
      go_simp
      exact hK_.out _ ((((Only.refl _ _).set 0 _).set 1 _).set 2 _) (((HB.out.set 0 _).set 1 _).set 2 _)
    exact RnL.nil
  simp only [fs,Kd.value,puts,Act.put,List.setIfInBounds_toArray,List.set_cons_zero,List.set_cons_succ,Nat.reduceAdd]
  have HX3:Hid (Ext w w3):=Lib.hid (HX2.out.drew.trans hx_)
  have HB2_3:=Lib.hid (HB2_2.out.drew.ext hx_)
  have HB3_3:Hid (Blk w3 (g2 4) #[.int .i64 t.w,.int .i64 t.x,.int .i64 t.y,.int .i64 t.z] 22):=Lib.hid (hm_ 4 _ _ _ _ rfl).2;have HGEB3:Hid (w.heap.size≤g2 4):=Lib.hid (Nat.le_trans HX2.out.size (hm_ 4 _ _ _ _ rfl).1)
  have HB4_3:Hid (Blk w3 (g2 5) #[.string (qs c.x),.string (qs c.y),.string (qs c.z)] 31):=Lib.hid (hm_ 5 _ _ _ _ rfl).2;have HGEB4:Hid (w.heap.size≤g2 5):=Lib.hid (Nat.le_trans HX2.out.size (hm_ 5 _ _ _ _ rfl).1)
  have HNEB2B3:Hid (w.heap.size+1+1≠g2 4):=Lib.hid (Nat.ne_of_lt (Nat.lt_of_lt_of_le HB2_2.out.lt (hm_ 4 _ _ _ _ rfl).1))
  have HNEB2B4:Hid (w.heap.size+1+1≠g2 5):=Lib.hid (Nat.ne_of_lt (Nat.lt_of_lt_of_le HB2_2.out.lt (hm_ 5 _ _ _ _ rfl).1))
  have HNEB3B4:Hid (g2 4≠g2 5):=Lib.hid (hne_ 4 5 (by decide) ⟨_,_,_,_,rfl⟩ ⟨_,_,_,_,rfl⟩)
  clear hx_ hm_ hne_
  generalize g2 4=i3 at *
  generalize g2 5=i4 at *
  clear g2
  have c3_0:=HB3_3.out.cell 0 rfl
  have c3_1:=HB3_3.out.cell 1 rfl
  have c3_2:=HB3_3.out.cell 2 rfl
  have c3_3:=HB3_3.out.cell 3 rfl
  have c4_0:=HB4_3.out.cell 0 rfl
  have c4_1:=HB4_3.out.cell 1 rfl
  have c4_2:=HB4_3.out.cell 2 rfl
  go_wp2_with fail
  refine (rabout_c t c Rc S r1 r2 r3 HRcE.out HSE.out Hr1E.out Hr2E.out Hr3E.out _ (HG.out.ext HX3.out) HtI.out HtZ.out Hc.out (by decide)).mono ?_;rintro e w4 ⟨rfl,e4⟩
  have HX4:Hid (Ext w w4):=Lib.hid (HX3.out.trans e4)
  have HB2_4:=Lib.hid (Blk.ext HB2_3.out e4)
  have HB3_4:=Lib.hid (Blk.ext HB3_3.out e4)
  have HB4_4:=Lib.hid (Blk.ext HB4_3.out e4)
  clear e4 c3_0 c3_1 c3_2 c3_3 c4_0 c4_1 c4_2
  go_upto_region 5 with fail
  refine wp_name (fun W=>Ext w W∧Blk W (w.heap.size+1+1) #[.int .i8 y0,.int .i8 y1] 80∧Blk W (i3) #[.int .i64 t.w,.int .i64 t.x,.int .i64 t.y,.int .i64 t.z] 22∧Blk W (i4) #[.string (qs c.x),.string (qs c.y),.string (qs c.z)] 31∧Blk W (w4.heap.size) #[.string (qs r1.x),.string (qs r1.y),.string (qs r1.z),.string (qs r2.x),.string (qs r2.y),.string (qs r2.z),.string (qs r3.x),.string (qs r3.y),.string (qs r3.z),.string (qs S.x),.string (qs S.y),.string (qs S.z)] 66) ⟨(HX4.out.alloc _),(HB2_4.out.alloc _),(HB3_4.out.alloc _),(HB4_4.out.alloc _),(Blk.new' (w:=_) (cs:=#[.string (qs r1.x),.string (qs r1.y),.string (qs r1.z),.string (qs r2.x),.string (qs r2.y),.string (qs r2.z),.string (qs r3.x),.string (qs r3.y),.string (qs r3.z),.string (qs S.x),.string (qs S.y),.string (qs S.z)]) (t:=66) (by first|rfl|(simp only [World.size_alloc];done)|(simp only [World.size_alloc];omega)|simp))⟩ ?_
  rintro w5 ⟨e5,bB2_5,bB3_5,bB4_5,bB5_5⟩
  have HX5:=Lib.hid e5;have HB2_5:=Lib.hid bB2_5;have HB3_5:=Lib.hid bB3_5;have HB4_5:=Lib.hid bB4_5;have HB5_5:=Lib.hid bB5_5
  have HGEB5:Hid (w.heap.size≤w4.heap.size):=Lib.hid (HX4.out.size)
  clear e5 bB2_5 bB3_5 bB4_5 bB5_5
  have c5_0:=HB5_5.out.cell 0 rfl
  have c5_1:=HB5_5.out.cell 1 rfl
  have c5_2:=HB5_5.out.cell 2 rfl
  have c5_3:=HB5_5.out.cell 3 rfl
  have c5_4:=HB5_5.out.cell 4 rfl
  have c5_5:=HB5_5.out.cell 5 rfl
  have c5_6:=HB5_5.out.cell 6 rfl
  have c5_7:=HB5_5.out.cell 7 rfl
  have c5_8:=HB5_5.out.cell 8 rfl
  have c5_9:=HB5_5.out.cell 9 rfl
  have c5_10:=HB5_5.out.cell 10 rfl
  have c5_11:=HB5_5.out.cell 11 rfl
  have c4_0:=HB4_5.out.cell 0 rfl
  have c4_1:=HB4_5.out.cell 1 rfl
  have c4_2:=HB4_5.out.cell 2 rfl
  go_wp2_with fail
  refine (aapply_c r1 r2 r3 S c c _ (HG.out.ext HX5.out) HRW.out.1 HRW.out.2.1 HRW.out.2.2 HS.out (Hc.out.mono (by decide)) (Hc.out.mono (by decide)) (about_keeps HRcE.out HSE.out Hr1E.out Hr2E.out Hr3E.out)).mono ?_;rintro e w6 ⟨rfl,e6⟩
  have HX6:Hid (Ext w w6):=Lib.hid (HX5.out.trans e6)
  have HB2_6:=Lib.hid (Blk.ext HB2_5.out e6)
  have HB3_6:=Lib.hid (Blk.ext HB3_5.out e6)
  have HB4_6:=Lib.hid (Blk.ext HB4_5.out e6)
  clear e6 c5_0 c5_1 c5_2 c5_3 c5_4 c5_5 c5_6 c5_7 c5_8 c5_9 c5_10 c5_11 c4_0 c4_1 c4_2
  go_upto_region 6 with fail
  refine wp_name (fun W=>Ext w W∧Blk W (w.heap.size+1+1) #[.int .i8 y0,.int .i8 y1] 80∧Blk W (i3) #[.int .i64 t.w,.int .i64 t.x,.int .i64 t.y,.int .i64 t.z] 22∧Blk W (i4) #[.string (qs c.x),.string (qs c.y),.string (qs c.z)] 31∧Blk W (w6.heap.size) #[.string (qs c.x),.string (qs c.y),.string (qs c.z)] 31) ⟨(HX6.out.alloc _),(HB2_6.out.alloc _),(HB3_6.out.alloc _),(HB4_6.out.alloc _),(Blk.new' (w:=_) (cs:=#[.string (qs c.x),.string (qs c.y),.string (qs c.z)]) (t:=31) (by first|rfl|(simp only [World.size_alloc];done)|(simp only [World.size_alloc];omega)|simp))⟩ ?_
  rintro w7 ⟨e7,bB2_7,bB3_7,bB4_7,bB6_7⟩
  have HX7:=Lib.hid e7;have HB2_7:=Lib.hid bB2_7;have HB3_7:=Lib.hid bB3_7;have HB4_7:=Lib.hid bB4_7;have HB6_7:=Lib.hid bB6_7
  have HGEB6:Hid (w.heap.size≤w6.heap.size):=Lib.hid (HX6.out.size)
  clear e7 bB2_7 bB3_7 bB4_7 bB6_7
  have c6_0:=HB6_7.out.cell 0 rfl
  have c6_1:=HB6_7.out.cell 1 rfl
  have c6_2:=HB6_7.out.cell 2 rfl
  have c4_0:=HB4_7.out.cell 0 rfl
  have c4_1:=HB4_7.out.cell 1 rfl
  have c4_2:=HB4_7.out.cell 2 rfl
  have c3_0:=HB3_7.out.cell 0 rfl
  have c3_1:=HB3_7.out.cell 1 rfl
  have c3_2:=HB3_7.out.cell 2 rfl
  have c3_3:=HB3_7.out.cell 3 rfl
  go_wp2_with fail
  refine (raxis_ok t p9 A B _ (HG.out.ext HX7.out) HtQ.out HtI.out HtZ.out Hp9E.out HAE.out HPS.out HBE.out HNZ.out).mono ?_;rintro e w8 ⟨rfl,e8⟩
  have HX8:Hid (Ext w w8):=Lib.hid (HX7.out.trans e8)
  have HB2_8:=Lib.hid (Blk.ext HB2_7.out e8)
  have HB3_8:=Lib.hid (Blk.ext HB3_7.out e8)
  clear e8 c6_0 c6_1 c6_2 c4_0 c4_1 c4_2 c3_0 c3_1 c3_2 c3_3
  go_upto_region 10 with fail
  refine wp_name (fun W=>Ext w W∧Blk W (w.heap.size+1+1) #[.int .i8 y0,.int .i8 y1] 80∧Blk W (i3) #[.int .i64 t.w,.int .i64 t.x,.int .i64 t.y,.int .i64 t.z] 22∧Blk W (w8.heap.size) #[.string (qs B.x),.string (qs B.y),.string (qs B.z)] 31) ⟨(HX8.out.alloc _),(HB2_8.out.alloc _),(HB3_8.out.alloc _),(Blk.new' (w:=_) (cs:=#[.string (qs B.x),.string (qs B.y),.string (qs B.z)]) (t:=31) (by first|rfl|(simp only [World.size_alloc];done)|(simp only [World.size_alloc];omega)|simp))⟩ ?_
  rintro w9 ⟨e9,bB2_9,bB3_9,bB7_9⟩
  have HX9:=Lib.hid e9;have HB2_9:=Lib.hid bB2_9;have HB3_9:=Lib.hid bB3_9;have HB7_9:=Lib.hid bB7_9
  have HGEB7:Hid (w.heap.size≤w8.heap.size):=Lib.hid (HX8.out.size)
  clear e9 bB2_9 bB3_9 bB7_9
  have c3_0:=HB3_9.out.cell 0 rfl
  have c3_1:=HB3_9.out.cell 1 rfl
  have c3_2:=HB3_9.out.cell 2 rfl
  have c3_3:=HB3_9.out.cell 3 rfl
  have c7_0:=HB7_9.out.cell 0 rfl
  have c7_1:=HB7_9.out.cell 1 rfl
  have c7_2:=HB7_9.out.cell 2 rfl
  go_wp2_with fail
  refine (rapply_as t B B HBS.out _ (HG.out.ext HX9.out) HtI.out HtZ.out HBV.out (by decide)).mono ?_;rintro e w10 ⟨rfl,e10⟩
  have HX10:Hid (Ext w w10):=Lib.hid (HX9.out.trans e10)
  have HB2_10:=Lib.hid (Blk.ext HB2_9.out e10)
  have HB7_10:=Lib.hid (Blk.ext HB7_9.out e10)
  clear e10 c3_0 c3_1 c3_2 c3_3 c7_0 c7_1 c7_2
  go_upto_region 11 with fail
  refine wp_name (fun W=>Ext w W∧Blk W (w.heap.size+1+1) #[.int .i8 y0,.int .i8 y1] 80∧Blk W (w8.heap.size) #[.string (qs B.x),.string (qs B.y),.string (qs B.z)] 31∧Blk W (w10.heap.size) #[.string (qs B.x),.string (qs B.y),.string (qs B.z)] 31) ⟨(HX10.out.alloc _),(HB2_10.out.alloc _),(HB7_10.out.alloc _),(Blk.new' (w:=_) (cs:=#[.string (qs B.x),.string (qs B.y),.string (qs B.z)]) (t:=31) (by first|rfl|(simp only [World.size_alloc];done)|(simp only [World.size_alloc];omega)|simp))⟩ ?_
  rintro w11 ⟨e11,bB2_11,bB7_11,bB8_11⟩
  have HX11:=Lib.hid e11;have HB2_11:=Lib.hid bB2_11;have HB7_11:=Lib.hid bB7_11;have HB8_11:=Lib.hid bB8_11
  have HGEB8:Hid (w.heap.size≤w10.heap.size):=Lib.hid (HX10.out.size)
  clear e11 bB2_11 bB7_11 bB8_11
  have c8_0:=HB8_11.out.cell 0 rfl
  have c8_1:=HB8_11.out.cell 1 rfl
  have c8_2:=HB8_11.out.cell 2 rfl
  have c7_0:=HB7_11.out.cell 0 rfl
  have c7_1:=HB7_11.out.cell 1 rfl
  have c7_2:=HB7_11.out.cell 2 rfl
  go_wp2_with fail
  refine wp_name (fun W=>Ext w W∧Blk W (w.heap.size+1+1) #[.int .i8 y0,.int .i8 y1] 80) ⟨HX11.out,HB2_11.out⟩ ?_
  rintro w12 ⟨e12,bB2_12⟩
  have HX12:=Lib.hid e12;have HB2_12:=Lib.hid bB2_12
  clear e12 bB2_12 c8_0 c8_1 c8_2 c7_0 c7_1 c7_2
  refine region_lin [.val (.pointer (some ⟨w.heap.size+1+1,0,none⟩)),.val (.int .i8 y0),.val (.int .i64 y0),.val (.int .i64 i),.val (.pointer (some ⟨w.heap.size+1+1,1,none⟩)),.val (.int .i8 y1),.val (.int .i64 y1),.val (.int .i64 k),.val (.int .i64 i),.val (.int .i64 k)] (by kernel_rfl) (by kernel_rfl) (by kernel_rfl) ?_ (fun g12 w13 hx_ hm_ hne_=>?_)
  · skip
    refine RnL.cons (fun g12 A_ W_ hs_=>?_) ?_
    · have q5_:=(hs_.old 5 (by kernel_rfl):A_.tmps[5]?.getD undef = .pointer (some ⟨w.heap.size+1+1,0,none⟩))
      refine Rn.val fun K_ hK_=>?_
      go_simp
      exact hK_.out _ (Ext.refl _)
    refine RnL.cons (fun g12 A_ W_ hs_=>?_) ?_
    · have q75_:=hs_.val 0 rfl rfl rfl
      have cB2_0:=((HB2_12.out.drew.ext hs_.1)).cell 0 rfl
      refine Rn.val fun K_ hK_=>?_
      go_simp
      exact hK_.out _ (Ext.refl _)
    refine RnL.cons (fun g12 A_ W_ hs_=>?_) ?_
    · have q76_:=hs_.val 1 rfl rfl rfl
      refine Rn.val fun K_ hK_=>?_
      go_simp
      try go_bits
      exact hK_.out _ (Ext.refl _)
    refine RnL.cons (fun g12 A_ W_ hs_=>?_) ?_
    · have q77_:=hs_.val 2 rfl rfl rfl
      refine Rn.val fun K_ hK_=>?_
      go_simp
      try go_bits
      exact hK_.out _ (Ext.refl _)
    refine RnL.cons (fun g12 A_ W_ hs_=>?_) ?_
    · have q5_:=(hs_.old 5 (by kernel_rfl):A_.tmps[5]?.getD undef = .pointer (some ⟨w.heap.size+1+1,0,none⟩))
      refine Rn.val fun K_ hK_=>?_
      go_simp
      exact hK_.out _ (Ext.refl _)
    refine RnL.cons (fun g12 A_ W_ hs_=>?_) ?_
    · have q79_:=hs_.val 4 rfl rfl rfl
      have cB2_1:=((HB2_12.out.drew.ext hs_.1)).cell 1 rfl
      refine Rn.val fun K_ hK_=>?_
      go_simp
      exact hK_.out _ (Ext.refl _)
    refine RnL.cons (fun g12 A_ W_ hs_=>?_) ?_
    · have q80_:=hs_.val 5 rfl rfl rfl
      refine Rn.val fun K_ hK_=>?_
      go_simp
      try go_bits
      exact hK_.out _ (Ext.refl _)
    refine RnL.cons (fun g12 A_ W_ hs_=>?_) ?_
    · have q81_:=hs_.val 6 rfl rfl rfl
      refine Rn.val fun K_ hK_=>?_
      go_simp
      try go_bits
      exact hK_.out _ (Ext.refl _)
    refine RnL.cons (fun g12 A_ W_ hs_=>?_) ?_
    · have q78_:=hs_.val 3 rfl rfl rfl
      refine Rn.val fun K_ hK_=>?_
      go_simp
      exact hK_.out _ (Ext.refl _)
    refine RnL.cons (fun g12 A_ W_ hs_=>?_) ?_
    · have q82_:=hs_.val 7 rfl rfl rfl
      refine Rn.val fun K_ hK_=>?_
      go_simp
      exact hK_.out _ (Ext.refl _)
    exact RnL.nil
  simp only [fs,Kd.value,puts,Act.put,List.setIfInBounds_toArray,List.set_cons_zero,List.set_cons_succ]
  have HX13:Hid (Ext w w13):=Lib.hid (HX12.out.drew.trans hx_)
  clear hx_ hm_ hne_
  go_wp2_with fail
  refine (sof_as (2*i*k) 0 (i*i-k*k) V0 HV0E.out _ (HG.out.ext HX13.out) HIB.out.1 na0 HIB.out.2.1).mono ?_;rintro e w14 ⟨rfl,e14⟩
  have HX14:Hid (Ext w w14):=Lib.hid (HX13.out.trans e14)
  clear e14
  go_wp2_with fail
  refine (rapply_as ⟨3,0,0,1⟩ V0 V1 HT1.out _ (HG.out.ext (HX14.out.alloc _)) ⟨by decide,by decide,by decide,by decide⟩ (by rintro ⟨h,_⟩;exact absurd h (by decide)) HV0.out (by decide)).mono ?_;rintro e w15 ⟨rfl,e15⟩
  have HX15:Hid (Ext w w15):=Lib.hid ((HX14.out.alloc _).trans e15)
  clear e15
  go_wp2_with fail
  refine ((HV1E.out▸HUC.out _ (HG.out.ext (HX15.out.alloc _)))).mono ?_;rintro e w16 ⟨rfl,e16⟩
  have HX16:Hid (Ext w w16):=Lib.hid ((HX15.out.alloc _).trans e16)
  have HB10_16:Hid (Blk w16 (w15.heap.size) #[.string (qs V1.x),.string (qs V1.y),.string (qs V1.z)] 31):=Lib.hid (Blk.ext (Blk.new' (w:=_) (cs:=#[.string (qs V1.x),.string (qs V1.y),.string (qs V1.z)]) (t:=31) (by first|rfl|(simp only [World.size_alloc];done)|(simp only [World.size_alloc];omega)|simp)) e16)
  have HGEB10:Hid (w.heap.size≤w15.heap.size):=Lib.hid (HX15.out.size)
  clear e16
  go_upto_region 19 with fail
  refine wp_name (fun W=>Ext w W∧Blk W (w15.heap.size) #[.string (qs V1.x),.string (qs V1.y),.string (qs V1.z)] 31∧Blk W (w16.heap.size) #[.int .i64 u.w,.int .i64 u.x,.int .i64 u.y,.int .i64 u.z] 22) ⟨(HX16.out.alloc _),(HB10_16.out.alloc _),(Blk.new' (w:=_) (cs:=#[.int .i64 u.w,.int .i64 u.x,.int .i64 u.y,.int .i64 u.z]) (t:=22) (by first|rfl|(simp only [World.size_alloc];done)|(simp only [World.size_alloc];omega)|simp))⟩ ?_
  rintro w17 ⟨e17,bB10_17,bB11_17⟩
  have HX17:=Lib.hid e17;have HB10_17:=Lib.hid bB10_17;have HB11_17:=Lib.hid bB11_17
  have HGEB11:Hid (w.heap.size≤w16.heap.size):=Lib.hid (HX16.out.size)
  clear e17 bB10_17 bB11_17
  have c11_0:=HB11_17.out.cell 0 rfl
  have c11_1:=HB11_17.out.cell 1 rfl
  have c11_2:=HB11_17.out.cell 2 rfl
  have c11_3:=HB11_17.out.cell 3 rfl
  have c10_0:=HB10_17.out.cell 0 rfl
  have c10_1:=HB10_17.out.cell 1 rfl
  have c10_2:=HB10_17.out.cell 2 rfl
  go_wp2_with fail
  refine (rapply_as u V1 V2 (by rw [← HV1E.out,← HV2E.out];exact HUU.out) _ (HG.out.ext HX17.out) HUI.out HUZ.out HV1.out (by decide)).mono ?_;rintro e w18 ⟨rfl,e18⟩
  have HX18:Hid (Ext w w18):=Lib.hid (HX17.out.trans e18)
  clear e18 c11_0 c11_1 c11_2 c11_3 c10_0 c10_1 c10_2
  go_wp2_with fail
  refine wp_name (fun W=>Ext w W∧Blk W (w18.heap.size) #[.string (qs V2.x),.string (qs V2.y),.string (qs V2.z)] 31) ⟨(HX18.out.alloc _),(Blk.new' (w:=_) (cs:=#[.string (qs V2.x),.string (qs V2.y),.string (qs V2.z)]) (t:=31) (by first|rfl|(simp only [World.size_alloc];done)|(simp only [World.size_alloc];omega)|simp))⟩ ?_
  rintro w19 ⟨e19,bB12_19⟩
  have HX19:=Lib.hid e19;have HB12_19:=Lib.hid bB12_19
  have HGEB12:Hid (w.heap.size≤w18.heap.size):=Lib.hid (HX18.out.size)
  clear e19 bB12_19
  refine region_lin [.val (.int .i64 0),.val (.bool true),.val (.bool true),.val (.agg #[.string (qs V2.x),.string (qs V2.y),.string (qs V2.z)]),.val (.int .i64 i),.val (.int .i64 i),.val (.int .i64 (i*i)),.val (.int .i64 k),.val (.int .i64 k),.val (.int .i64 (k*k)),.val (.int .i64 (i*i+k*k)),.val (.agg #[.string (qs V2.x),.string (qs V2.y),.string (qs V2.z)]),.val (.bool true),.val (.bool true),.val (.bool true)] (by kernel_rfl) (by kernel_rfl) (by kernel_rfl) ?_ (fun g19 w20 hx_ hm_ hne_=>?_)
  · skip
    refine RnL.cons (fun g19 A_ W_ hs_=>?_) ?_
    · have q25_:=(hs_.old 25 (by kernel_rfl):A_.tmps[25]?.getD undef = .int .i64 0)
      refine Rn.val fun K_ hK_=>?_
      go_simp
      exact hK_.out _ (Ext.refl _)
    refine RnL.cons (fun g19 A_ W_ hs_=>?_) ?_
    · have q132_:=hs_.val 0 rfl rfl rfl
      refine Rn.val fun K_ hK_=>?_
      go_simp
      exact hK_.out _ (Ext.refl _)
    refine RnL.cons (fun g19 A_ W_ hs_=>?_) ?_
    · have q133_:=hs_.val 1 rfl rfl rfl
      refine Rn.val fun K_ hK_=>?_
      go_simp
      exact hK_.out _ (Ext.refl _)
    refine RnL.cons (fun g19 A_ W_ hs_=>?_) ?_
    · have q24_:=(hs_.old 24 (by kernel_rfl):A_.tmps[24]?.getD undef = .pointer (some ⟨w18.heap.size,0,none⟩))
      have cB12_0:=((HB12_19.out.drew.ext hs_.1)).cell 0 rfl
      have cB12_1:=((HB12_19.out.drew.ext hs_.1)).cell 1 rfl
      have cB12_2:=((HB12_19.out.drew.ext hs_.1)).cell 2 rfl
      refine Rn.val fun K_ hK_=>?_
      go_simp
      exact hK_.out _ (Ext.refl _)
    refine RnL.cons (fun g19 A_ W_ hs_=>?_) ?_
    · have q17_:=(hs_.old 17 (by kernel_rfl):A_.tmps[17]?.getD undef = .int .i64 i)
      refine Rn.val fun K_ hK_=>?_
      go_simp
      exact hK_.out _ (Ext.refl _)
    refine RnL.cons (fun g19 A_ W_ hs_=>?_) ?_
    · have q17_:=(hs_.old 17 (by kernel_rfl):A_.tmps[17]?.getD undef = .int .i64 i)
      refine Rn.val fun K_ hK_=>?_
      go_simp
      exact hK_.out _ (Ext.refl _)
    refine RnL.cons (fun g19 A_ W_ hs_=>?_) ?_
    · have q136_:=hs_.val 4 rfl rfl rfl
      have q137_:=hs_.val 5 rfl rfl rfl
      refine Rn.val fun K_ hK_=>?_
      go_simp
      try go_bits
      exact hK_.out _ (Ext.refl _)
    refine RnL.cons (fun g19 A_ W_ hs_=>?_) ?_
    · have q18_:=(hs_.old 18 (by kernel_rfl):A_.tmps[18]?.getD undef = .int .i64 k)
      refine Rn.val fun K_ hK_=>?_
      go_simp
      exact hK_.out _ (Ext.refl _)
    refine RnL.cons (fun g19 A_ W_ hs_=>?_) ?_
    · have q18_:=(hs_.old 18 (by kernel_rfl):A_.tmps[18]?.getD undef = .int .i64 k)
      refine Rn.val fun K_ hK_=>?_
      go_simp
      exact hK_.out _ (Ext.refl _)
    refine RnL.cons (fun g19 A_ W_ hs_=>?_) ?_
    · have q139_:=hs_.val 7 rfl rfl rfl
      have q140_:=hs_.val 8 rfl rfl rfl
      refine Rn.val fun K_ hK_=>?_
      go_simp
      try go_bits
      exact hK_.out _ (Ext.refl _)
    refine RnL.cons (fun g19 A_ W_ hs_=>?_) ?_
    · have q138_:=hs_.val 6 rfl rfl rfl
      have q141_:=hs_.val 9 rfl rfl rfl
      refine Rn.val fun K_ hK_=>?_
      go_simp
      try go_bits
      exact hK_.out _ (Ext.refl _)
    refine RnL.cons (fun g19 A_ W_ hs_=>?_) ?_
    · have q142_:=hs_.val 10 rfl rfl rfl
      refine Rn.val fun K_ hK_=>?_
      go_simp
      refine (sof_as 0 0 (i*i+k*k) V2 HV2E.out _ (HG.out.ext (HX19.out.drew.trans hs_.1)) na0 na0 HIB.out.2.2).mono ?_;rintro e W9_ ⟨rfl,e9_⟩;exact hK_.out _ e9_
    refine RnL.cons (fun g19 A_ W_ hs_=>?_) ?_
    · have q135_:=hs_.val 3 rfl rfl rfl
      have q143_:=hs_.val 11 rfl rfl rfl
      refine Rn.val fun K_ hK_=>?_
      go_simp
      exact hK_.out _ (Ext.refl _)
    refine RnL.cons (fun g19 A_ W_ hs_=>?_) ?_
    · have q134_:=hs_.val 2 rfl rfl rfl
      have q144_:=hs_.val 12 rfl rfl rfl
      refine Rn.val fun K_ hK_=>?_
      go_simp
      exact hK_.out _ (Ext.refl _)
    refine RnL.cons (fun g19 A_ W_ hs_=>?_) ?_
    · have q145_:=hs_.val 13 rfl rfl rfl
      refine Rn.val fun K_ hK_=>?_
      go_simp
      exact hK_.out _ (Ext.refl _)
    exact RnL.nil
  simp only [fs,Kd.value,puts,Act.put,List.setIfInBounds_toArray,List.set_cons_zero,List.set_cons_succ]
  have HX20:Hid (Ext w w20):=Lib.hid (HX19.out.drew.trans hx_)
  clear hx_ hm_ hne_
  go_wp2
  go_ret
  exact ⟨rfl,HX20.out⟩

set_option maxHeartbeats 32000000 in
theorem keeps17_okZ (n0 n1 n2 n3:Int) (p:Pla) (y0 y1:Int) (w:World) (g:Gd w) (hn0:-128≤n0∧n0≤127) (hn1:-128≤n1∧n1≤127) (hn2:-128≤n2∧n2≤127) (hn3:-128≤n3∧n3≤127) (hp:PlaOk p) (hy0:-128≤y0∧y0≤127) (hy1:-128≤y1∧y1≤127) (ey0:y0.tmod 10=0) (ey1:y1.tmod 10=0) (hz:¬ ((iv (prim4 (mk4 n0 n1 n2 n3)).x (prim4 (mk4 n0 n1 n2 n3)).y (prim4 (mk4 n0 n1 n2 n3)).z).x=0∧(iv (prim4 (mk4 n0 n1 n2 n3)).x (prim4 (mk4 n0 n1 n2 n3)).y (prim4 (mk4 n0 n1 n2 n3)).z).y=0∧(iv (prim4 (mk4 n0 n1 n2 n3)).x (prim4 (mk4 n0 n1 n2 n3)).y (prim4 (mk4 n0 n1 n2 n3)).z).z=0)):Calls Tryz.prog 9 #[.agg #[.int .i8 n0,.int .i8 n1,.int .i8 n2,.int .i8 n3],.agg #[.int .i16 p.n0,.int .u8 (p.d0:Int),.int .i16 p.n1,.int .u8 (p.d1:Int),.int .i16 p.n2,.int .u8 (p.d2:Int)],.agg #[.int .i8 y0,.int .i8 y1]] w (Ret w (.bool true)):=by
  have Hp:=Lib.hid hp
  have HG:=Lib.hid g
  clear hp g
  have HtB:Hid ((-128≤n0∧n0≤127)∧(-128≤n1∧n1≤127)∧(-128≤n2∧n2≤127)∧(-128≤n3∧n3≤127)):=Lib.hid ⟨hn0,hn1,hn2,hn3⟩
  clear hn0 hn1 hn2 hn3
  obtain ⟨t,et⟩:∃ t,mk4 n0 n1 n2 n3=t:=⟨_,rfl⟩
  have HtE:=Lib.hid et;have HtS:Hid (Q4S t):=Lib.hid (et▸mk4_s n0 n1 n2 n3);have HtZ:Hid (¬ t.zero):=Lib.hid (et▸mk4_nz n0 n1 n2 n3);clear et
  have HtI:Hid (Q4In t):=Lib.hid HtS.out.inn;have HtQ:Hid (QErr t 0):=Lib.hid (.ok HtI.out HtZ.out)
  obtain ⟨c,ec⟩:∃ c,pvec p=c:=⟨_,rfl⟩
  have HcE:=Lib.hid ec;have Hc:Hid (VB 5 c):=Lib.hid (ec▸Hp.out.v);clear ec
  obtain ⟨p9,ep9⟩:∃ x,prim4 t=x:=⟨_,rfl⟩
  have Hp9E:=Lib.hid ep9;clear ep9
  have HPS:Hid (Q4S p9):=Lib.hid (Hp9E.out▸prim4_s HtS.out)
  obtain ⟨A,eA⟩:∃ x,iv p9.x p9.y p9.z=x:=⟨_,rfl⟩
  have HAE:=Lib.hid eA;clear eA
  have HPN:Hid (p9.x.natAbs<100000∧p9.y.natAbs<100000∧p9.z.natAbs<100000):=Lib.hid ⟨by have:=HPS.out.x;omega,by have:=HPS.out.y;omega,by have:=HPS.out.z;omega⟩
  have HAV:Hid (VB 2 A):=Lib.hid (by rw [← HAE.out];exact ⟨QB.int ⟨by have:=HPS.out.x;omega⟩ (by decide),QB.int ⟨by have:=HPS.out.y;omega⟩ (by decide),QB.int ⟨by have:=HPS.out.z;omega⟩ (by decide)⟩)
  obtain ⟨r1,er1⟩:∃ x,row1 t=x:=⟨_,rfl⟩
  have Hr1E:=Lib.hid er1;clear er1
  obtain ⟨r2,er2⟩:∃ x,row2 t=x:=⟨_,rfl⟩
  have Hr2E:=Lib.hid er2;clear er2
  obtain ⟨r3,er3⟩:∃ x,row3 t=x:=⟨_,rfl⟩
  have Hr3E:=Lib.hid er3;clear er3
  obtain ⟨Rc,eRc⟩:∃ x,rot t c=x:=⟨_,rfl⟩
  have HRcE:=Lib.hid eRc;clear eRc
  obtain ⟨S,eS⟩:∃ x,sub3 c Rc=x:=⟨_,rfl⟩
  have HSE:=Lib.hid eS;clear eS
  have HRc:Hid (VB 31 Rc):=Lib.hid (HRcE.out▸rot_qbS HtS.out HtZ.out Hc.out)
  have HS:Hid (VB 60 S):=Lib.hid ((HSE.out▸sub3_vb Hc.out HRc.out:VB 37 S).mono (by decide))
  have HRW:Hid (VB 60 r1∧VB 60 r2∧VB 60 r3):=Lib.hid (by rw [← Hr1E.out,← Hr2E.out,← Hr3E.out];exact rows_qbS HtI.out HtZ.out)
  have wy0_:IntKind.i64.wrap y0=y0:=IntWalk.i64_in y0 (by omega)
  have wy1_:IntKind.i64.wrap y1=y1:=IntWalk.i64_in y1 (by omega)
  have HIV:Hid (VB 5 (iv 0 0 0)):=Lib.hid (iv_vb na0 na0 na0)
  have HPV:Hid (VB 25 (pyv 0 0)):=Lib.hid (py_vb (by decide) (by decide))
  obtain ⟨V0,eV0⟩:∃ x,iv 0 0 0=x:=⟨_,rfl⟩
  have HV0E:=Lib.hid eV0;clear eV0
  obtain ⟨V1,eV1⟩:∃ x,pyv 0 0=x:=⟨_,rfl⟩
  have HV1E:=Lib.hid eV1;clear eV1
  have HV0:Hid (VB 5 V0):=Lib.hid (HV0E.out▸HIV.out)
  have HV1:Hid (VB 25 V1):=Lib.hid (HV1E.out▸HPV.out)
  have HT1:Hid (rot ⟨3,0,0,1⟩ V0=V1):=Lib.hid (by rw [← HV0E.out,← HV1E.out];exact (py_rot 0 0))
  have HNZ:Hid (¬ (A.x=0∧A.y=0∧A.z=0)):=Lib.hid (by rw [← HAE.out,← Hp9E.out,← HtE.out];exact hz)
  clear hz
  obtain ⟨B,eB⟩:∃ x,vprim A=x:=⟨_,rfl⟩
  have HBE:=Lib.hid eB;clear eB
  have HBV:Hid (VB 18 B):=Lib.hid (HBE.out▸vprim_vb2 HNZ.out HAV.out)
  have HBS:Hid (rot t B=B):=Lib.hid (axis_stays HtZ.out Hp9E.out HAE.out HBE.out HNZ.out)
  go_enter Tryz.func9,Tryz.ntmps9
  go_wp2_with fail
  refine (known17_c _ (HG.out.ext ((((Ext.refl w).alloc _).alloc _).alloc _))).mono ?_;rintro e w1 ⟨rfl,e1⟩
  have HX1:Hid (Ext w w1):=Lib.hid (((((Ext.refl w).alloc _).alloc _).alloc _).trans e1)
  have HB0_1:Hid (Blk w1 (w.heap.size) #[.int .i8 n0,.int .i8 n1,.int .i8 n2,.int .i8 n3] 49):=Lib.hid (Blk.ext (((Blk.new' (w:=_) (cs:=#[.int .i8 n0,.int .i8 n1,.int .i8 n2,.int .i8 n3]) (t:=49) (by first|rfl|(simp only [World.size_alloc];done)|(simp only [World.size_alloc];omega)|simp)).alloc _).alloc _) e1)
  have HB1_1:Hid (Blk w1 (w.heap.size+1) #[.int .i16 p.n0,.int .u8 (p.d0:Int),.int .i16 p.n1,.int .u8 (p.d1:Int),.int .i16 p.n2,.int .u8 (p.d2:Int)] 54):=Lib.hid (Blk.ext ((Blk.new' (w:=_) (cs:=#[.int .i16 p.n0,.int .u8 (p.d0:Int),.int .i16 p.n1,.int .u8 (p.d1:Int),.int .i16 p.n2,.int .u8 (p.d2:Int)]) (t:=54) (by first|rfl|(simp only [World.size_alloc];done)|(simp only [World.size_alloc];omega)|simp)).alloc _) e1)
  have HB2_1:Hid (Blk w1 (w.heap.size+1+1) #[.int .i8 y0,.int .i8 y1] 80):=Lib.hid (Blk.ext (Blk.new' (w:=_) (cs:=#[.int .i8 y0,.int .i8 y1]) (t:=80) (by first|rfl|(simp only [World.size_alloc];done)|(simp only [World.size_alloc];omega)|simp)) e1)
  have HGEB0:Hid (w.heap.size≤w.heap.size):=Lib.hid (Nat.le_refl _)
  have HGEB1:Hid (w.heap.size≤w.heap.size+1):=Lib.hid (by omega)
  have HGEB2:Hid (w.heap.size≤w.heap.size+1+1):=Lib.hid (by omega)
  clear e1
  go_wp2_with fail
  refine wp_name (fun W=>Ext w W∧Blk W (w.heap.size) #[.int .i8 n0,.int .i8 n1,.int .i8 n2,.int .i8 n3] 49∧Blk W (w.heap.size+1) #[.int .i16 p.n0,.int .u8 (p.d0:Int),.int .i16 p.n1,.int .u8 (p.d1:Int),.int .i16 p.n2,.int .u8 (p.d2:Int)] 54∧Blk W (w.heap.size+1+1) #[.int .i8 y0,.int .i8 y1] 80) ⟨HX1.out,HB0_1.out,HB1_1.out,HB2_1.out⟩ ?_
  rintro w2 ⟨e2,bB0_2,bB1_2,bB2_2⟩
  have HX2:=Lib.hid e2;have HB0_2:=Lib.hid bB0_2;have HB1_2:=Lib.hid bB1_2;have HB2_2:=Lib.hid bB2_2
  clear e2 bB0_2 bB1_2 bB2_2
  refine region_lin [.val (.agg #[.int .i8 n0,.int .i8 n1,.int .i8 n2,.int .i8 n3]),.val (.agg #[.int .i64 t.w,.int .i64 t.x,.int .i64 t.y,.int .i64 t.z]),.val (.agg #[.int .i16 p.n0,.int .u8 (p.d0:Int),.int .i16 p.n1,.int .u8 (p.d1:Int),.int .i16 p.n2,.int .u8 (p.d2:Int)]),.val (.agg #[.string (qs c.x),.string (qs c.y),.string (qs c.z)]),.mem (fun b_ => .pointer (some ⟨b_,0,none⟩)) #[.int .i64 0,.int .i64 0,.int .i64 0,.int .i64 0] 22 (Option.some 6),.mem (fun b_ => .pointer (some ⟨b_,0,none⟩)) #[.string ⟨#[]⟩,.string ⟨#[]⟩,.string ⟨#[]⟩] 31 (Option.some 7),.put 4 #[.int .i64 t.w,.int .i64 t.x,.int .i64 t.y,.int .i64 t.z],.put 5 #[.string (qs c.x),.string (qs c.y),.string (qs c.z)]] (by kernel_rfl) (by kernel_rfl) (by kernel_rfl) ?_ (fun g2 w3 hx_ hm_ hne_=>?_)
  · skip
    refine RnL.cons (fun g2 A_ W_ hs_=>?_) ?_
    · have q3_:=(hs_.old 3 (by kernel_rfl):A_.tmps[3]?.getD undef = .pointer (some ⟨w.heap.size,0,none⟩))
      have cB0_0:=((HB0_2.out.drew.ext hs_.1)).cell 0 rfl
      have cB0_1:=((HB0_2.out.drew.ext hs_.1)).cell 1 rfl
      have cB0_2:=((HB0_2.out.drew.ext hs_.1)).cell 2 rfl
      have cB0_3:=((HB0_2.out.drew.ext hs_.1)).cell 3 rfl
      refine Rn.val fun K_ hK_=>?_
      go_simp
      exact hK_.out _ (Ext.refl _)
    refine RnL.cons (fun g2 A_ W_ hs_=>?_) ?_
    · have q28_:=hs_.val 0 rfl rfl rfl
      refine Rn.val fun K_ hK_=>?_
      go_simp
      refine (mk4_c n0 n1 n2 n3 t _ (HG.out.ext (HX2.out.drew.trans hs_.1)) HtB.out.1 HtB.out.2.1 HtB.out.2.2.1 HtB.out.2.2.2 HtE.out).mono ?_;rintro e W9_ ⟨rfl,e9_⟩;exact hK_.out _ e9_
    refine RnL.cons (fun g2 A_ W_ hs_=>?_) ?_
    · have q4_:=(hs_.old 4 (by kernel_rfl):A_.tmps[4]?.getD undef = .pointer (some ⟨w.heap.size+1,0,none⟩))
      have cB1_0:=((HB1_2.out.drew.ext hs_.1)).cell 0 rfl
      have cB1_1:=((HB1_2.out.drew.ext hs_.1)).cell 1 rfl
      have cB1_2:=((HB1_2.out.drew.ext hs_.1)).cell 2 rfl
      have cB1_3:=((HB1_2.out.drew.ext hs_.1)).cell 3 rfl
      have cB1_4:=((HB1_2.out.drew.ext hs_.1)).cell 4 rfl
      have cB1_5:=((HB1_2.out.drew.ext hs_.1)).cell 5 rfl
      refine Rn.val fun K_ hK_=>?_
      go_simp
      exact hK_.out _ (Ext.refl _)
    refine RnL.cons (fun g2 A_ W_ hs_=>?_) ?_
    · have q30_:=hs_.val 2 rfl rfl rfl
      refine Rn.val fun K_ hK_=>?_
      go_simp
      refine ((HcE.out▸make_c p _ (HG.out.ext (HX2.out.drew.trans hs_.1)) Hp.out)).mono ?_;rintro e W9_ ⟨rfl,e9_⟩;exact hK_.out _ e9_
    refine RnL.cons (fun g2 A_ W_ hs_=>?_) ?_
    · refine Rn.mem fun K_ hK_=>?_
      go_simp
      exact hK_.out
    refine RnL.cons (fun g2 A_ W_ hs_=>?_) ?_
    · refine Rn.mem fun K_ hK_=>?_
      go_simp
      exact hK_.out
    refine RnL.cons (fun g2 A_ W_ hs_=>?_) ?_
    · have q7_:=(hs_.mem 4 rfl rfl rfl).1
      have q29_:=hs_.val 1 rfl rfl rfl
      refine Rn.put (z:=#[.int .i64 0,.int .i64 0,.int .i64 0,.int .i64 0]) (t:=22) rfl fun hB K_ hK_=>?_
      have c_0:=hB.cell 0 rfl;have f_0:=hB.free 0
      have c_1:=hB.cell 1 rfl;have f_1:=hB.free 1
      have c_2:=hB.cell 2 rfl;have f_2:=hB.free 2
      have c_3:=hB.cell 3 rfl;have f_3:=hB.free 3
      have HB:=Lib.hid hB;clear hB
      go_simp
      exact hK_.out _ (((((Only.refl _ _).set 0 _).set 1 _).set 2 _).set 3 _) ((((HB.out.set 0 _).set 1 _).set 2 _).set 3 _)
    refine RnL.cons (fun g2 A_ W_ hs_=>?_) ?_
    · have q8_:=(hs_.mem 5 rfl rfl rfl).1
      have q31_:=hs_.val 3 rfl rfl rfl
      refine Rn.put (z:=#[.string ⟨#[]⟩,.string ⟨#[]⟩,.string ⟨#[]⟩]) (t:=31) rfl fun hB K_ hK_=>?_
      have c_0:=hB.cell 0 rfl;have f_0:=hB.free 0
      have c_1:=hB.cell 1 rfl;have f_1:=hB.free 1
      have c_2:=hB.cell 2 rfl;have f_2:=hB.free 2
      have HB:=Lib.hid hB;clear hB
      go_simp
      exact hK_.out _ ((((Only.refl _ _).set 0 _).set 1 _).set 2 _) (((HB.out.set 0 _).set 1 _).set 2 _)
    exact RnL.nil
  simp only [fs,Kd.value,puts,Act.put,List.setIfInBounds_toArray,List.set_cons_zero,List.set_cons_succ,Nat.reduceAdd]
  have HX3:Hid (Ext w w3):=Lib.hid (HX2.out.drew.trans hx_)
  have HB2_3:=Lib.hid (HB2_2.out.drew.ext hx_)
  have HB3_3:Hid (Blk w3 (g2 4) #[.int .i64 t.w,.int .i64 t.x,.int .i64 t.y,.int .i64 t.z] 22):=Lib.hid (hm_ 4 _ _ _ _ rfl).2;have HGEB3:Hid (w.heap.size≤g2 4):=Lib.hid (Nat.le_trans HX2.out.size (hm_ 4 _ _ _ _ rfl).1)
  have HB4_3:Hid (Blk w3 (g2 5) #[.string (qs c.x),.string (qs c.y),.string (qs c.z)] 31):=Lib.hid (hm_ 5 _ _ _ _ rfl).2;have HGEB4:Hid (w.heap.size≤g2 5):=Lib.hid (Nat.le_trans HX2.out.size (hm_ 5 _ _ _ _ rfl).1)
  have HNEB2B3:Hid (w.heap.size+1+1≠g2 4):=Lib.hid (Nat.ne_of_lt (Nat.lt_of_lt_of_le HB2_2.out.lt (hm_ 4 _ _ _ _ rfl).1))
  have HNEB2B4:Hid (w.heap.size+1+1≠g2 5):=Lib.hid (Nat.ne_of_lt (Nat.lt_of_lt_of_le HB2_2.out.lt (hm_ 5 _ _ _ _ rfl).1))
  have HNEB3B4:Hid (g2 4≠g2 5):=Lib.hid (hne_ 4 5 (by decide) ⟨_,_,_,_,rfl⟩ ⟨_,_,_,_,rfl⟩)
  clear hx_ hm_ hne_
  generalize g2 4=i3 at *
  generalize g2 5=i4 at *
  clear g2
  have c3_0:=HB3_3.out.cell 0 rfl
  have c3_1:=HB3_3.out.cell 1 rfl
  have c3_2:=HB3_3.out.cell 2 rfl
  have c3_3:=HB3_3.out.cell 3 rfl
  have c4_0:=HB4_3.out.cell 0 rfl
  have c4_1:=HB4_3.out.cell 1 rfl
  have c4_2:=HB4_3.out.cell 2 rfl
  go_wp2_with fail
  refine (rabout_c t c Rc S r1 r2 r3 HRcE.out HSE.out Hr1E.out Hr2E.out Hr3E.out _ (HG.out.ext HX3.out) HtI.out HtZ.out Hc.out (by decide)).mono ?_;rintro e w4 ⟨rfl,e4⟩
  have HX4:Hid (Ext w w4):=Lib.hid (HX3.out.trans e4)
  have HB2_4:=Lib.hid (Blk.ext HB2_3.out e4)
  have HB3_4:=Lib.hid (Blk.ext HB3_3.out e4)
  have HB4_4:=Lib.hid (Blk.ext HB4_3.out e4)
  clear e4 c3_0 c3_1 c3_2 c3_3 c4_0 c4_1 c4_2
  go_upto_region 5 with fail
  refine wp_name (fun W=>Ext w W∧Blk W (w.heap.size+1+1) #[.int .i8 y0,.int .i8 y1] 80∧Blk W (i3) #[.int .i64 t.w,.int .i64 t.x,.int .i64 t.y,.int .i64 t.z] 22∧Blk W (i4) #[.string (qs c.x),.string (qs c.y),.string (qs c.z)] 31∧Blk W (w4.heap.size) #[.string (qs r1.x),.string (qs r1.y),.string (qs r1.z),.string (qs r2.x),.string (qs r2.y),.string (qs r2.z),.string (qs r3.x),.string (qs r3.y),.string (qs r3.z),.string (qs S.x),.string (qs S.y),.string (qs S.z)] 66) ⟨(HX4.out.alloc _),(HB2_4.out.alloc _),(HB3_4.out.alloc _),(HB4_4.out.alloc _),(Blk.new' (w:=_) (cs:=#[.string (qs r1.x),.string (qs r1.y),.string (qs r1.z),.string (qs r2.x),.string (qs r2.y),.string (qs r2.z),.string (qs r3.x),.string (qs r3.y),.string (qs r3.z),.string (qs S.x),.string (qs S.y),.string (qs S.z)]) (t:=66) (by first|rfl|(simp only [World.size_alloc];done)|(simp only [World.size_alloc];omega)|simp))⟩ ?_
  rintro w5 ⟨e5,bB2_5,bB3_5,bB4_5,bB5_5⟩
  have HX5:=Lib.hid e5;have HB2_5:=Lib.hid bB2_5;have HB3_5:=Lib.hid bB3_5;have HB4_5:=Lib.hid bB4_5;have HB5_5:=Lib.hid bB5_5
  have HGEB5:Hid (w.heap.size≤w4.heap.size):=Lib.hid (HX4.out.size)
  clear e5 bB2_5 bB3_5 bB4_5 bB5_5
  have c5_0:=HB5_5.out.cell 0 rfl
  have c5_1:=HB5_5.out.cell 1 rfl
  have c5_2:=HB5_5.out.cell 2 rfl
  have c5_3:=HB5_5.out.cell 3 rfl
  have c5_4:=HB5_5.out.cell 4 rfl
  have c5_5:=HB5_5.out.cell 5 rfl
  have c5_6:=HB5_5.out.cell 6 rfl
  have c5_7:=HB5_5.out.cell 7 rfl
  have c5_8:=HB5_5.out.cell 8 rfl
  have c5_9:=HB5_5.out.cell 9 rfl
  have c5_10:=HB5_5.out.cell 10 rfl
  have c5_11:=HB5_5.out.cell 11 rfl
  have c4_0:=HB4_5.out.cell 0 rfl
  have c4_1:=HB4_5.out.cell 1 rfl
  have c4_2:=HB4_5.out.cell 2 rfl
  go_wp2_with fail
  refine (aapply_c r1 r2 r3 S c c _ (HG.out.ext HX5.out) HRW.out.1 HRW.out.2.1 HRW.out.2.2 HS.out (Hc.out.mono (by decide)) (Hc.out.mono (by decide)) (about_keeps HRcE.out HSE.out Hr1E.out Hr2E.out Hr3E.out)).mono ?_;rintro e w6 ⟨rfl,e6⟩
  have HX6:Hid (Ext w w6):=Lib.hid (HX5.out.trans e6)
  have HB2_6:=Lib.hid (Blk.ext HB2_5.out e6)
  have HB3_6:=Lib.hid (Blk.ext HB3_5.out e6)
  have HB4_6:=Lib.hid (Blk.ext HB4_5.out e6)
  clear e6 c5_0 c5_1 c5_2 c5_3 c5_4 c5_5 c5_6 c5_7 c5_8 c5_9 c5_10 c5_11 c4_0 c4_1 c4_2
  go_upto_region 6 with fail
  refine wp_name (fun W=>Ext w W∧Blk W (w.heap.size+1+1) #[.int .i8 y0,.int .i8 y1] 80∧Blk W (i3) #[.int .i64 t.w,.int .i64 t.x,.int .i64 t.y,.int .i64 t.z] 22∧Blk W (i4) #[.string (qs c.x),.string (qs c.y),.string (qs c.z)] 31∧Blk W (w6.heap.size) #[.string (qs c.x),.string (qs c.y),.string (qs c.z)] 31) ⟨(HX6.out.alloc _),(HB2_6.out.alloc _),(HB3_6.out.alloc _),(HB4_6.out.alloc _),(Blk.new' (w:=_) (cs:=#[.string (qs c.x),.string (qs c.y),.string (qs c.z)]) (t:=31) (by first|rfl|(simp only [World.size_alloc];done)|(simp only [World.size_alloc];omega)|simp))⟩ ?_
  rintro w7 ⟨e7,bB2_7,bB3_7,bB4_7,bB6_7⟩
  have HX7:=Lib.hid e7;have HB2_7:=Lib.hid bB2_7;have HB3_7:=Lib.hid bB3_7;have HB4_7:=Lib.hid bB4_7;have HB6_7:=Lib.hid bB6_7
  have HGEB6:Hid (w.heap.size≤w6.heap.size):=Lib.hid (HX6.out.size)
  clear e7 bB2_7 bB3_7 bB4_7 bB6_7
  have c6_0:=HB6_7.out.cell 0 rfl
  have c6_1:=HB6_7.out.cell 1 rfl
  have c6_2:=HB6_7.out.cell 2 rfl
  have c4_0:=HB4_7.out.cell 0 rfl
  have c4_1:=HB4_7.out.cell 1 rfl
  have c4_2:=HB4_7.out.cell 2 rfl
  have c3_0:=HB3_7.out.cell 0 rfl
  have c3_1:=HB3_7.out.cell 1 rfl
  have c3_2:=HB3_7.out.cell 2 rfl
  have c3_3:=HB3_7.out.cell 3 rfl
  go_wp2_with fail
  refine (raxis_ok t p9 A B _ (HG.out.ext HX7.out) HtQ.out HtI.out HtZ.out Hp9E.out HAE.out HPS.out HBE.out HNZ.out).mono ?_;rintro e w8 ⟨rfl,e8⟩
  have HX8:Hid (Ext w w8):=Lib.hid (HX7.out.trans e8)
  have HB2_8:=Lib.hid (Blk.ext HB2_7.out e8)
  have HB3_8:=Lib.hid (Blk.ext HB3_7.out e8)
  clear e8 c6_0 c6_1 c6_2 c4_0 c4_1 c4_2 c3_0 c3_1 c3_2 c3_3
  go_upto_region 10 with fail
  refine wp_name (fun W=>Ext w W∧Blk W (w.heap.size+1+1) #[.int .i8 y0,.int .i8 y1] 80∧Blk W (i3) #[.int .i64 t.w,.int .i64 t.x,.int .i64 t.y,.int .i64 t.z] 22∧Blk W (w8.heap.size) #[.string (qs B.x),.string (qs B.y),.string (qs B.z)] 31) ⟨(HX8.out.alloc _),(HB2_8.out.alloc _),(HB3_8.out.alloc _),(Blk.new' (w:=_) (cs:=#[.string (qs B.x),.string (qs B.y),.string (qs B.z)]) (t:=31) (by first|rfl|(simp only [World.size_alloc];done)|(simp only [World.size_alloc];omega)|simp))⟩ ?_
  rintro w9 ⟨e9,bB2_9,bB3_9,bB7_9⟩
  have HX9:=Lib.hid e9;have HB2_9:=Lib.hid bB2_9;have HB3_9:=Lib.hid bB3_9;have HB7_9:=Lib.hid bB7_9
  have HGEB7:Hid (w.heap.size≤w8.heap.size):=Lib.hid (HX8.out.size)
  clear e9 bB2_9 bB3_9 bB7_9
  have c3_0:=HB3_9.out.cell 0 rfl
  have c3_1:=HB3_9.out.cell 1 rfl
  have c3_2:=HB3_9.out.cell 2 rfl
  have c3_3:=HB3_9.out.cell 3 rfl
  have c7_0:=HB7_9.out.cell 0 rfl
  have c7_1:=HB7_9.out.cell 1 rfl
  have c7_2:=HB7_9.out.cell 2 rfl
  go_wp2_with fail
  refine (rapply_as t B B HBS.out _ (HG.out.ext HX9.out) HtI.out HtZ.out HBV.out (by decide)).mono ?_;rintro e w10 ⟨rfl,e10⟩
  have HX10:Hid (Ext w w10):=Lib.hid (HX9.out.trans e10)
  have HB2_10:=Lib.hid (Blk.ext HB2_9.out e10)
  have HB7_10:=Lib.hid (Blk.ext HB7_9.out e10)
  clear e10 c3_0 c3_1 c3_2 c3_3 c7_0 c7_1 c7_2
  go_upto_region 11 with fail
  refine wp_name (fun W=>Ext w W∧Blk W (w.heap.size+1+1) #[.int .i8 y0,.int .i8 y1] 80∧Blk W (w8.heap.size) #[.string (qs B.x),.string (qs B.y),.string (qs B.z)] 31∧Blk W (w10.heap.size) #[.string (qs B.x),.string (qs B.y),.string (qs B.z)] 31) ⟨(HX10.out.alloc _),(HB2_10.out.alloc _),(HB7_10.out.alloc _),(Blk.new' (w:=_) (cs:=#[.string (qs B.x),.string (qs B.y),.string (qs B.z)]) (t:=31) (by first|rfl|(simp only [World.size_alloc];done)|(simp only [World.size_alloc];omega)|simp))⟩ ?_
  rintro w11 ⟨e11,bB2_11,bB7_11,bB8_11⟩
  have HX11:=Lib.hid e11;have HB2_11:=Lib.hid bB2_11;have HB7_11:=Lib.hid bB7_11;have HB8_11:=Lib.hid bB8_11
  have HGEB8:Hid (w.heap.size≤w10.heap.size):=Lib.hid (HX10.out.size)
  clear e11 bB2_11 bB7_11 bB8_11
  have c8_0:=HB8_11.out.cell 0 rfl
  have c8_1:=HB8_11.out.cell 1 rfl
  have c8_2:=HB8_11.out.cell 2 rfl
  have c7_0:=HB7_11.out.cell 0 rfl
  have c7_1:=HB7_11.out.cell 1 rfl
  have c7_2:=HB7_11.out.cell 2 rfl
  go_wp2_with fail
  refine wp_name (fun W=>Ext w W∧Blk W (w.heap.size+1+1) #[.int .i8 y0,.int .i8 y1] 80) ⟨HX11.out,HB2_11.out⟩ ?_
  rintro w12 ⟨e12,bB2_12⟩
  have HX12:=Lib.hid e12;have HB2_12:=Lib.hid bB2_12
  clear e12 bB2_12 c8_0 c8_1 c8_2 c7_0 c7_1 c7_2
  refine region_lin [.val (.pointer (some ⟨w.heap.size+1+1,0,none⟩)),.val (.int .i8 y0),.val (.int .i64 y0),.val (.int .i64 0),.val (.pointer (some ⟨w.heap.size+1+1,1,none⟩)),.val (.int .i8 y1),.val (.int .i64 y1),.val (.int .i64 0),.val (.int .i64 0),.val (.int .i64 0)] (by kernel_rfl) (by kernel_rfl) (by kernel_rfl) ?_ (fun g12 w13 hx_ hm_ hne_=>?_)
  · skip
    refine RnL.cons (fun g12 A_ W_ hs_=>?_) ?_
    · have q5_:=(hs_.old 5 (by kernel_rfl):A_.tmps[5]?.getD undef = .pointer (some ⟨w.heap.size+1+1,0,none⟩))
      refine Rn.val fun K_ hK_=>?_
      go_simp
      exact hK_.out _ (Ext.refl _)
    refine RnL.cons (fun g12 A_ W_ hs_=>?_) ?_
    · have q75_:=hs_.val 0 rfl rfl rfl
      have cB2_0:=((HB2_12.out.drew.ext hs_.1)).cell 0 rfl
      refine Rn.val fun K_ hK_=>?_
      go_simp
      exact hK_.out _ (Ext.refl _)
    refine RnL.cons (fun g12 A_ W_ hs_=>?_) ?_
    · have q76_:=hs_.val 1 rfl rfl rfl
      refine Rn.val fun K_ hK_=>?_
      go_simp
      try go_bits
      exact hK_.out _ (Ext.refl _)
    refine RnL.cons (fun g12 A_ W_ hs_=>?_) ?_
    · have q77_:=hs_.val 2 rfl rfl rfl
      refine Rn.val fun K_ hK_=>?_
      go_simp
      try go_bits
      exact hK_.out _ (Ext.refl _)
    refine RnL.cons (fun g12 A_ W_ hs_=>?_) ?_
    · have q5_:=(hs_.old 5 (by kernel_rfl):A_.tmps[5]?.getD undef = .pointer (some ⟨w.heap.size+1+1,0,none⟩))
      refine Rn.val fun K_ hK_=>?_
      go_simp
      exact hK_.out _ (Ext.refl _)
    refine RnL.cons (fun g12 A_ W_ hs_=>?_) ?_
    · have q79_:=hs_.val 4 rfl rfl rfl
      have cB2_1:=((HB2_12.out.drew.ext hs_.1)).cell 1 rfl
      refine Rn.val fun K_ hK_=>?_
      go_simp
      exact hK_.out _ (Ext.refl _)
    refine RnL.cons (fun g12 A_ W_ hs_=>?_) ?_
    · have q80_:=hs_.val 5 rfl rfl rfl
      refine Rn.val fun K_ hK_=>?_
      go_simp
      try go_bits
      exact hK_.out _ (Ext.refl _)
    refine RnL.cons (fun g12 A_ W_ hs_=>?_) ?_
    · have q81_:=hs_.val 6 rfl rfl rfl
      refine Rn.val fun K_ hK_=>?_
      go_simp
      try go_bits
      exact hK_.out _ (Ext.refl _)
    refine RnL.cons (fun g12 A_ W_ hs_=>?_) ?_
    · have q78_:=hs_.val 3 rfl rfl rfl
      refine Rn.val fun K_ hK_=>?_
      go_simp
      exact hK_.out _ (Ext.refl _)
    refine RnL.cons (fun g12 A_ W_ hs_=>?_) ?_
    · have q82_:=hs_.val 7 rfl rfl rfl
      refine Rn.val fun K_ hK_=>?_
      go_simp
      exact hK_.out _ (Ext.refl _)
    exact RnL.nil
  simp only [fs,Kd.value,puts,Act.put,List.setIfInBounds_toArray,List.set_cons_zero,List.set_cons_succ]
  have HX13:Hid (Ext w w13):=Lib.hid (HX12.out.drew.trans hx_)
  clear hx_ hm_ hne_
  go_wp2_with fail
  refine (sof_as 0 0 0 V0 HV0E.out _ (HG.out.ext HX13.out) na0 na0 na0).mono ?_;rintro e w14 ⟨rfl,e14⟩
  have HX14:Hid (Ext w w14):=Lib.hid (HX13.out.trans e14)
  clear e14
  go_wp2_with fail
  refine (rapply_as ⟨3,0,0,1⟩ V0 V1 HT1.out _ (HG.out.ext (HX14.out.alloc _)) ⟨by decide,by decide,by decide,by decide⟩ (by rintro ⟨h,_⟩;exact absurd h (by decide)) HV0.out (by decide)).mono ?_;rintro e w15 ⟨rfl,e15⟩
  have HX15:Hid (Ext w w15):=Lib.hid ((HX14.out.alloc _).trans e15)
  clear e15
  go_wp2_with fail
  refine (runt_z V1 _ (HG.out.ext (HX15.out.alloc _)) HV1.out (by decide) (HV1E.out▸py_z0.1) (HV1E.out▸py_z0.2.1) (HV1E.out▸py_z0.2.2)).mono ?_;rintro e w16 ⟨rfl,e16⟩
  have HX16:Hid (Ext w w16):=Lib.hid ((HX15.out.alloc _).trans e16)
  clear e16
  go_wp2
  go_ret
  exact ⟨rfl,(HX16.out.alloc _)⟩

set_option maxHeartbeats 32000000 in
theorem keeps17_noneU (n0 n1 n2 n3:Int) (p:Pla) (y0 y1:Int) (i k:Int) (u:Q4) (w:World) (g:Gd w) (hn0:-128≤n0∧n0≤127) (hn1:-128≤n1∧n1≤127) (hn2:-128≤n2∧n2≤127) (hn3:-128≤n3∧n3≤127) (hp:PlaOk p) (hy0:-128≤y0∧y0≤127) (hy1:-128≤y1∧y1≤127) (ey0:y0.tmod 10=i) (ey1:y1.tmod 10=k) (hz:(iv (prim4 (mk4 n0 n1 n2 n3)).x (prim4 (mk4 n0 n1 n2 n3)).y (prim4 (mk4 n0 n1 n2 n3)).z).x=0∧(iv (prim4 (mk4 n0 n1 n2 n3)).x (prim4 (mk4 n0 n1 n2 n3)).y (prim4 (mk4 n0 n1 n2 n3)).z).y=0∧(iv (prim4 (mk4 n0 n1 n2 n3)).x (prim4 (mk4 n0 n1 n2 n3)).y (prim4 (mk4 n0 n1 n2 n3)).z).z=0) (hui:Q4In u) (huz:¬ u.zero) (hu:rot u (pyv i k)=iv 0 0 (i*i+k*k)) (hc:∀ (w:World) (g:Gd w),Calls Tryz.prog 40 #[.agg #[.string (qs ((pyv i k).x)),.string (qs ((pyv i k).y)),.string (qs ((pyv i k).z))]] w (Ret w (.tuple #[.agg #[.int .i64 u.w,.int .i64 u.x,.int .i64 u.y,.int .i64 u.z],.int .i64 0]))):Calls Tryz.prog 9 #[.agg #[.int .i8 n0,.int .i8 n1,.int .i8 n2,.int .i8 n3],.agg #[.int .i16 p.n0,.int .u8 (p.d0:Int),.int .i16 p.n1,.int .u8 (p.d1:Int),.int .i16 p.n2,.int .u8 (p.d2:Int)],.agg #[.int .i8 y0,.int .i8 y1]] w (Ret w (.bool true)):=by
  have Hp:=Lib.hid hp
  have HG:=Lib.hid g
  clear hp g
  have HtB:Hid ((-128≤n0∧n0≤127)∧(-128≤n1∧n1≤127)∧(-128≤n2∧n2≤127)∧(-128≤n3∧n3≤127)):=Lib.hid ⟨hn0,hn1,hn2,hn3⟩
  clear hn0 hn1 hn2 hn3
  obtain ⟨t,et⟩:∃ t,mk4 n0 n1 n2 n3=t:=⟨_,rfl⟩
  have HtE:=Lib.hid et;have HtS:Hid (Q4S t):=Lib.hid (et▸mk4_s n0 n1 n2 n3);have HtZ:Hid (¬ t.zero):=Lib.hid (et▸mk4_nz n0 n1 n2 n3);clear et
  have HtI:Hid (Q4In t):=Lib.hid HtS.out.inn;have HtQ:Hid (QErr t 0):=Lib.hid (.ok HtI.out HtZ.out)
  obtain ⟨c,ec⟩:∃ c,pvec p=c:=⟨_,rfl⟩
  have HcE:=Lib.hid ec;have Hc:Hid (VB 5 c):=Lib.hid (ec▸Hp.out.v);clear ec
  obtain ⟨p9,ep9⟩:∃ x,prim4 t=x:=⟨_,rfl⟩
  have Hp9E:=Lib.hid ep9;clear ep9
  have HPS:Hid (Q4S p9):=Lib.hid (Hp9E.out▸prim4_s HtS.out)
  obtain ⟨A,eA⟩:∃ x,iv p9.x p9.y p9.z=x:=⟨_,rfl⟩
  have HAE:=Lib.hid eA;clear eA
  have HPN:Hid (p9.x.natAbs<100000∧p9.y.natAbs<100000∧p9.z.natAbs<100000):=Lib.hid ⟨by have:=HPS.out.x;omega,by have:=HPS.out.y;omega,by have:=HPS.out.z;omega⟩
  have HAV:Hid (VB 2 A):=Lib.hid (by rw [← HAE.out];exact ⟨QB.int ⟨by have:=HPS.out.x;omega⟩ (by decide),QB.int ⟨by have:=HPS.out.y;omega⟩ (by decide),QB.int ⟨by have:=HPS.out.z;omega⟩ (by decide)⟩)
  obtain ⟨r1,er1⟩:∃ x,row1 t=x:=⟨_,rfl⟩
  have Hr1E:=Lib.hid er1;clear er1
  obtain ⟨r2,er2⟩:∃ x,row2 t=x:=⟨_,rfl⟩
  have Hr2E:=Lib.hid er2;clear er2
  obtain ⟨r3,er3⟩:∃ x,row3 t=x:=⟨_,rfl⟩
  have Hr3E:=Lib.hid er3;clear er3
  obtain ⟨Rc,eRc⟩:∃ x,rot t c=x:=⟨_,rfl⟩
  have HRcE:=Lib.hid eRc;clear eRc
  obtain ⟨S,eS⟩:∃ x,sub3 c Rc=x:=⟨_,rfl⟩
  have HSE:=Lib.hid eS;clear eS
  have HRc:Hid (VB 31 Rc):=Lib.hid (HRcE.out▸rot_qbS HtS.out HtZ.out Hc.out)
  have HS:Hid (VB 60 S):=Lib.hid ((HSE.out▸sub3_vb Hc.out HRc.out:VB 37 S).mono (by decide))
  have HRW:Hid (VB 60 r1∧VB 60 r2∧VB 60 r3):=Lib.hid (by rw [← Hr1E.out,← Hr2E.out,← Hr3E.out];exact rows_qbS HtI.out HtZ.out)
  have wy0_:IntKind.i64.wrap y0=y0:=IntWalk.i64_in y0 (by omega)
  have wy1_:IntKind.i64.wrap y1=y1:=IntWalk.i64_in y1 (by omega)
  have HUI:=Lib.hid hui;have HUZ:=Lib.hid huz;have HUU:=Lib.hid hu;have HUC:=Lib.hid hc;clear hui huz hu hc
  have bi:-9≤i∧i≤9:=ey0▸tmod10' y0
  have bk:-9≤k∧k≤9:=ey1▸tmod10' y1
  have HBI:=Lib.hid bi;have HBK:=Lib.hid bk
  have m2:-18≤2*i∧2*i≤18:=by omega
  have mik:=mul9 bi bk;have mii:=mul9 bi bi;have mkk:=mul9 bk bk
  have m2k:2*i*k=2*(i*k):=Int.mul_assoc 2 i k
  have wz0_:IntKind.i64.wrap (2*i)=2*i:=IntWalk.i64_in _ (by omega)
  have wz1_:IntKind.i64.wrap (2*i*k)=2*i*k:=IntWalk.i64_in _ (by omega)
  have wz2_:IntKind.i64.wrap (i*i)=i*i:=IntWalk.i64_in _ (by omega)
  have wz3_:IntKind.i64.wrap (k*k)=k*k:=IntWalk.i64_in _ (by omega)
  have wz4_:IntKind.i64.wrap (i*i-k*k)=i*i-k*k:=IntWalk.i64_in _ (by omega)
  have wz5_:IntKind.i64.wrap (i*i+k*k)=i*i+k*k:=IntWalk.i64_in _ (by omega)
  have HIB:Hid ((2*i*k).natAbs<100000∧(i*i-k*k).natAbs<100000∧(i*i+k*k).natAbs<100000):=Lib.hid ⟨by omega,by omega,by omega⟩
  clear m2k
  have HIV:Hid (VB 5 (iv (2*i*k) 0 (i*i-k*k))):=Lib.hid (iv_vb HIB.out.1 na0 HIB.out.2.1)
  have HPV:=Lib.hid (py_vb HBI.out HBK.out)
  obtain ⟨V0,eV0⟩:∃ x,iv (2*i*k) 0 (i*i-k*k)=x:=⟨_,rfl⟩
  have HV0E:=Lib.hid eV0;clear eV0
  obtain ⟨V1,eV1⟩:∃ x,pyv i k=x:=⟨_,rfl⟩
  have HV1E:=Lib.hid eV1;clear eV1
  obtain ⟨V2,eV2⟩:∃ x,iv 0 0 (i*i+k*k)=x:=⟨_,rfl⟩
  have HV2E:=Lib.hid eV2;clear eV2
  have HV0:Hid (VB 5 V0):=Lib.hid (HV0E.out▸HIV.out)
  have HV1:Hid (VB 25 V1):=Lib.hid (HV1E.out▸HPV.out)
  have HT1:Hid (rot ⟨3,0,0,1⟩ V0=V1):=Lib.hid (by rw [← HV0E.out,← HV1E.out];exact py_rot i k)
  have HN0:Hid (p9.x=0∧p9.y=0∧p9.z=0):=Lib.hid (iv_nz.1 (by rw [← Hp9E.out,← HtE.out];exact hz))
  clear hz
  go_enter Tryz.func9,Tryz.ntmps9
  go_wp2_with fail
  refine (known17_c _ (HG.out.ext ((((Ext.refl w).alloc _).alloc _).alloc _))).mono ?_;rintro e w1 ⟨rfl,e1⟩
  have HX1:Hid (Ext w w1):=Lib.hid (((((Ext.refl w).alloc _).alloc _).alloc _).trans e1)
  have HB0_1:Hid (Blk w1 (w.heap.size) #[.int .i8 n0,.int .i8 n1,.int .i8 n2,.int .i8 n3] 49):=Lib.hid (Blk.ext (((Blk.new' (w:=_) (cs:=#[.int .i8 n0,.int .i8 n1,.int .i8 n2,.int .i8 n3]) (t:=49) (by first|rfl|(simp only [World.size_alloc];done)|(simp only [World.size_alloc];omega)|simp)).alloc _).alloc _) e1)
  have HB1_1:Hid (Blk w1 (w.heap.size+1) #[.int .i16 p.n0,.int .u8 (p.d0:Int),.int .i16 p.n1,.int .u8 (p.d1:Int),.int .i16 p.n2,.int .u8 (p.d2:Int)] 54):=Lib.hid (Blk.ext ((Blk.new' (w:=_) (cs:=#[.int .i16 p.n0,.int .u8 (p.d0:Int),.int .i16 p.n1,.int .u8 (p.d1:Int),.int .i16 p.n2,.int .u8 (p.d2:Int)]) (t:=54) (by first|rfl|(simp only [World.size_alloc];done)|(simp only [World.size_alloc];omega)|simp)).alloc _) e1)
  have HB2_1:Hid (Blk w1 (w.heap.size+1+1) #[.int .i8 y0,.int .i8 y1] 80):=Lib.hid (Blk.ext (Blk.new' (w:=_) (cs:=#[.int .i8 y0,.int .i8 y1]) (t:=80) (by first|rfl|(simp only [World.size_alloc];done)|(simp only [World.size_alloc];omega)|simp)) e1)
  have HGEB0:Hid (w.heap.size≤w.heap.size):=Lib.hid (Nat.le_refl _)
  have HGEB1:Hid (w.heap.size≤w.heap.size+1):=Lib.hid (by omega)
  have HGEB2:Hid (w.heap.size≤w.heap.size+1+1):=Lib.hid (by omega)
  clear e1
  go_wp2_with fail
  refine wp_name (fun W=>Ext w W∧Blk W (w.heap.size) #[.int .i8 n0,.int .i8 n1,.int .i8 n2,.int .i8 n3] 49∧Blk W (w.heap.size+1) #[.int .i16 p.n0,.int .u8 (p.d0:Int),.int .i16 p.n1,.int .u8 (p.d1:Int),.int .i16 p.n2,.int .u8 (p.d2:Int)] 54∧Blk W (w.heap.size+1+1) #[.int .i8 y0,.int .i8 y1] 80) ⟨HX1.out,HB0_1.out,HB1_1.out,HB2_1.out⟩ ?_
  rintro w2 ⟨e2,bB0_2,bB1_2,bB2_2⟩
  have HX2:=Lib.hid e2;have HB0_2:=Lib.hid bB0_2;have HB1_2:=Lib.hid bB1_2;have HB2_2:=Lib.hid bB2_2
  clear e2 bB0_2 bB1_2 bB2_2
  refine region_lin [.val (.agg #[.int .i8 n0,.int .i8 n1,.int .i8 n2,.int .i8 n3]),.val (.agg #[.int .i64 t.w,.int .i64 t.x,.int .i64 t.y,.int .i64 t.z]),.val (.agg #[.int .i16 p.n0,.int .u8 (p.d0:Int),.int .i16 p.n1,.int .u8 (p.d1:Int),.int .i16 p.n2,.int .u8 (p.d2:Int)]),.val (.agg #[.string (qs c.x),.string (qs c.y),.string (qs c.z)]),.mem (fun b_ => .pointer (some ⟨b_,0,none⟩)) #[.int .i64 0,.int .i64 0,.int .i64 0,.int .i64 0] 22 (Option.some 6),.mem (fun b_ => .pointer (some ⟨b_,0,none⟩)) #[.string ⟨#[]⟩,.string ⟨#[]⟩,.string ⟨#[]⟩] 31 (Option.some 7),.put 4 #[.int .i64 t.w,.int .i64 t.x,.int .i64 t.y,.int .i64 t.z],.put 5 #[.string (qs c.x),.string (qs c.y),.string (qs c.z)]] (by kernel_rfl) (by kernel_rfl) (by kernel_rfl) ?_ (fun g2 w3 hx_ hm_ hne_=>?_)
  · skip
    refine RnL.cons (fun g2 A_ W_ hs_=>?_) ?_
    · have q3_:=(hs_.old 3 (by kernel_rfl):A_.tmps[3]?.getD undef = .pointer (some ⟨w.heap.size,0,none⟩))
      have cB0_0:=((HB0_2.out.drew.ext hs_.1)).cell 0 rfl
      have cB0_1:=((HB0_2.out.drew.ext hs_.1)).cell 1 rfl
      have cB0_2:=((HB0_2.out.drew.ext hs_.1)).cell 2 rfl
      have cB0_3:=((HB0_2.out.drew.ext hs_.1)).cell 3 rfl
      refine Rn.val fun K_ hK_=>?_
      go_simp
      exact hK_.out _ (Ext.refl _)
    refine RnL.cons (fun g2 A_ W_ hs_=>?_) ?_
    · have q28_:=hs_.val 0 rfl rfl rfl
      refine Rn.val fun K_ hK_=>?_
      go_simp
      refine (mk4_c n0 n1 n2 n3 t _ (HG.out.ext (HX2.out.drew.trans hs_.1)) HtB.out.1 HtB.out.2.1 HtB.out.2.2.1 HtB.out.2.2.2 HtE.out).mono ?_;rintro e W9_ ⟨rfl,e9_⟩;exact hK_.out _ e9_
    refine RnL.cons (fun g2 A_ W_ hs_=>?_) ?_
    · have q4_:=(hs_.old 4 (by kernel_rfl):A_.tmps[4]?.getD undef = .pointer (some ⟨w.heap.size+1,0,none⟩))
      have cB1_0:=((HB1_2.out.drew.ext hs_.1)).cell 0 rfl
      have cB1_1:=((HB1_2.out.drew.ext hs_.1)).cell 1 rfl
      have cB1_2:=((HB1_2.out.drew.ext hs_.1)).cell 2 rfl
      have cB1_3:=((HB1_2.out.drew.ext hs_.1)).cell 3 rfl
      have cB1_4:=((HB1_2.out.drew.ext hs_.1)).cell 4 rfl
      have cB1_5:=((HB1_2.out.drew.ext hs_.1)).cell 5 rfl
      refine Rn.val fun K_ hK_=>?_
      go_simp
      exact hK_.out _ (Ext.refl _)
    refine RnL.cons (fun g2 A_ W_ hs_=>?_) ?_
    · have q30_:=hs_.val 2 rfl rfl rfl
      refine Rn.val fun K_ hK_=>?_
      go_simp
      refine ((HcE.out▸make_c p _ (HG.out.ext (HX2.out.drew.trans hs_.1)) Hp.out)).mono ?_;rintro e W9_ ⟨rfl,e9_⟩;exact hK_.out _ e9_
    refine RnL.cons (fun g2 A_ W_ hs_=>?_) ?_
    · refine Rn.mem fun K_ hK_=>?_
      go_simp
      exact hK_.out
    refine RnL.cons (fun g2 A_ W_ hs_=>?_) ?_
    · refine Rn.mem fun K_ hK_=>?_
      go_simp
      exact hK_.out
    refine RnL.cons (fun g2 A_ W_ hs_=>?_) ?_
    · have q7_:=(hs_.mem 4 rfl rfl rfl).1
      have q29_:=hs_.val 1 rfl rfl rfl
      refine Rn.put (z:=#[.int .i64 0,.int .i64 0,.int .i64 0,.int .i64 0]) (t:=22) rfl fun hB K_ hK_=>?_
      have c_0:=hB.cell 0 rfl;have f_0:=hB.free 0
      have c_1:=hB.cell 1 rfl;have f_1:=hB.free 1
      have c_2:=hB.cell 2 rfl;have f_2:=hB.free 2
      have c_3:=hB.cell 3 rfl;have f_3:=hB.free 3
      have HB:=Lib.hid hB;clear hB
      go_simp
      exact hK_.out _ (((((Only.refl _ _).set 0 _).set 1 _).set 2 _).set 3 _) ((((HB.out.set 0 _).set 1 _).set 2 _).set 3 _)
    refine RnL.cons (fun g2 A_ W_ hs_=>?_) ?_
    · have q8_:=(hs_.mem 5 rfl rfl rfl).1
      have q31_:=hs_.val 3 rfl rfl rfl
      refine Rn.put (z:=#[.string ⟨#[]⟩,.string ⟨#[]⟩,.string ⟨#[]⟩]) (t:=31) rfl fun hB K_ hK_=>?_
      have c_0:=hB.cell 0 rfl;have f_0:=hB.free 0
      have c_1:=hB.cell 1 rfl;have f_1:=hB.free 1
      have c_2:=hB.cell 2 rfl;have f_2:=hB.free 2
      have HB:=Lib.hid hB;clear hB
      go_simp
      exact hK_.out _ ((((Only.refl _ _).set 0 _).set 1 _).set 2 _) (((HB.out.set 0 _).set 1 _).set 2 _)
    exact RnL.nil
  simp only [fs,Kd.value,puts,Act.put,List.setIfInBounds_toArray,List.set_cons_zero,List.set_cons_succ,Nat.reduceAdd]
  have HX3:Hid (Ext w w3):=Lib.hid (HX2.out.drew.trans hx_)
  have HB2_3:=Lib.hid (HB2_2.out.drew.ext hx_)
  have HB3_3:Hid (Blk w3 (g2 4) #[.int .i64 t.w,.int .i64 t.x,.int .i64 t.y,.int .i64 t.z] 22):=Lib.hid (hm_ 4 _ _ _ _ rfl).2;have HGEB3:Hid (w.heap.size≤g2 4):=Lib.hid (Nat.le_trans HX2.out.size (hm_ 4 _ _ _ _ rfl).1)
  have HB4_3:Hid (Blk w3 (g2 5) #[.string (qs c.x),.string (qs c.y),.string (qs c.z)] 31):=Lib.hid (hm_ 5 _ _ _ _ rfl).2;have HGEB4:Hid (w.heap.size≤g2 5):=Lib.hid (Nat.le_trans HX2.out.size (hm_ 5 _ _ _ _ rfl).1)
  have HNEB2B3:Hid (w.heap.size+1+1≠g2 4):=Lib.hid (Nat.ne_of_lt (Nat.lt_of_lt_of_le HB2_2.out.lt (hm_ 4 _ _ _ _ rfl).1))
  have HNEB2B4:Hid (w.heap.size+1+1≠g2 5):=Lib.hid (Nat.ne_of_lt (Nat.lt_of_lt_of_le HB2_2.out.lt (hm_ 5 _ _ _ _ rfl).1))
  have HNEB3B4:Hid (g2 4≠g2 5):=Lib.hid (hne_ 4 5 (by decide) ⟨_,_,_,_,rfl⟩ ⟨_,_,_,_,rfl⟩)
  clear hx_ hm_ hne_
  generalize g2 4=i3 at *
  generalize g2 5=i4 at *
  clear g2
  have c3_0:=HB3_3.out.cell 0 rfl
  have c3_1:=HB3_3.out.cell 1 rfl
  have c3_2:=HB3_3.out.cell 2 rfl
  have c3_3:=HB3_3.out.cell 3 rfl
  have c4_0:=HB4_3.out.cell 0 rfl
  have c4_1:=HB4_3.out.cell 1 rfl
  have c4_2:=HB4_3.out.cell 2 rfl
  go_wp2_with fail
  refine (rabout_c t c Rc S r1 r2 r3 HRcE.out HSE.out Hr1E.out Hr2E.out Hr3E.out _ (HG.out.ext HX3.out) HtI.out HtZ.out Hc.out (by decide)).mono ?_;rintro e w4 ⟨rfl,e4⟩
  have HX4:Hid (Ext w w4):=Lib.hid (HX3.out.trans e4)
  have HB2_4:=Lib.hid (Blk.ext HB2_3.out e4)
  have HB3_4:=Lib.hid (Blk.ext HB3_3.out e4)
  have HB4_4:=Lib.hid (Blk.ext HB4_3.out e4)
  clear e4 c3_0 c3_1 c3_2 c3_3 c4_0 c4_1 c4_2
  go_upto_region 5 with fail
  refine wp_name (fun W=>Ext w W∧Blk W (w.heap.size+1+1) #[.int .i8 y0,.int .i8 y1] 80∧Blk W (i3) #[.int .i64 t.w,.int .i64 t.x,.int .i64 t.y,.int .i64 t.z] 22∧Blk W (i4) #[.string (qs c.x),.string (qs c.y),.string (qs c.z)] 31∧Blk W (w4.heap.size) #[.string (qs r1.x),.string (qs r1.y),.string (qs r1.z),.string (qs r2.x),.string (qs r2.y),.string (qs r2.z),.string (qs r3.x),.string (qs r3.y),.string (qs r3.z),.string (qs S.x),.string (qs S.y),.string (qs S.z)] 66) ⟨(HX4.out.alloc _),(HB2_4.out.alloc _),(HB3_4.out.alloc _),(HB4_4.out.alloc _),(Blk.new' (w:=_) (cs:=#[.string (qs r1.x),.string (qs r1.y),.string (qs r1.z),.string (qs r2.x),.string (qs r2.y),.string (qs r2.z),.string (qs r3.x),.string (qs r3.y),.string (qs r3.z),.string (qs S.x),.string (qs S.y),.string (qs S.z)]) (t:=66) (by first|rfl|(simp only [World.size_alloc];done)|(simp only [World.size_alloc];omega)|simp))⟩ ?_
  rintro w5 ⟨e5,bB2_5,bB3_5,bB4_5,bB5_5⟩
  have HX5:=Lib.hid e5;have HB2_5:=Lib.hid bB2_5;have HB3_5:=Lib.hid bB3_5;have HB4_5:=Lib.hid bB4_5;have HB5_5:=Lib.hid bB5_5
  have HGEB5:Hid (w.heap.size≤w4.heap.size):=Lib.hid (HX4.out.size)
  clear e5 bB2_5 bB3_5 bB4_5 bB5_5
  have c5_0:=HB5_5.out.cell 0 rfl
  have c5_1:=HB5_5.out.cell 1 rfl
  have c5_2:=HB5_5.out.cell 2 rfl
  have c5_3:=HB5_5.out.cell 3 rfl
  have c5_4:=HB5_5.out.cell 4 rfl
  have c5_5:=HB5_5.out.cell 5 rfl
  have c5_6:=HB5_5.out.cell 6 rfl
  have c5_7:=HB5_5.out.cell 7 rfl
  have c5_8:=HB5_5.out.cell 8 rfl
  have c5_9:=HB5_5.out.cell 9 rfl
  have c5_10:=HB5_5.out.cell 10 rfl
  have c5_11:=HB5_5.out.cell 11 rfl
  have c4_0:=HB4_5.out.cell 0 rfl
  have c4_1:=HB4_5.out.cell 1 rfl
  have c4_2:=HB4_5.out.cell 2 rfl
  go_wp2_with fail
  refine (aapply_c r1 r2 r3 S c c _ (HG.out.ext HX5.out) HRW.out.1 HRW.out.2.1 HRW.out.2.2 HS.out (Hc.out.mono (by decide)) (Hc.out.mono (by decide)) (about_keeps HRcE.out HSE.out Hr1E.out Hr2E.out Hr3E.out)).mono ?_;rintro e w6 ⟨rfl,e6⟩
  have HX6:Hid (Ext w w6):=Lib.hid (HX5.out.trans e6)
  have HB2_6:=Lib.hid (Blk.ext HB2_5.out e6)
  have HB3_6:=Lib.hid (Blk.ext HB3_5.out e6)
  have HB4_6:=Lib.hid (Blk.ext HB4_5.out e6)
  clear e6 c5_0 c5_1 c5_2 c5_3 c5_4 c5_5 c5_6 c5_7 c5_8 c5_9 c5_10 c5_11 c4_0 c4_1 c4_2
  go_upto_region 6 with fail
  refine wp_name (fun W=>Ext w W∧Blk W (w.heap.size+1+1) #[.int .i8 y0,.int .i8 y1] 80∧Blk W (i3) #[.int .i64 t.w,.int .i64 t.x,.int .i64 t.y,.int .i64 t.z] 22∧Blk W (i4) #[.string (qs c.x),.string (qs c.y),.string (qs c.z)] 31∧Blk W (w6.heap.size) #[.string (qs c.x),.string (qs c.y),.string (qs c.z)] 31) ⟨(HX6.out.alloc _),(HB2_6.out.alloc _),(HB3_6.out.alloc _),(HB4_6.out.alloc _),(Blk.new' (w:=_) (cs:=#[.string (qs c.x),.string (qs c.y),.string (qs c.z)]) (t:=31) (by first|rfl|(simp only [World.size_alloc];done)|(simp only [World.size_alloc];omega)|simp))⟩ ?_
  rintro w7 ⟨e7,bB2_7,bB3_7,bB4_7,bB6_7⟩
  have HX7:=Lib.hid e7;have HB2_7:=Lib.hid bB2_7;have HB3_7:=Lib.hid bB3_7;have HB4_7:=Lib.hid bB4_7;have HB6_7:=Lib.hid bB6_7
  have HGEB6:Hid (w.heap.size≤w6.heap.size):=Lib.hid (HX6.out.size)
  clear e7 bB2_7 bB3_7 bB4_7 bB6_7
  have c6_0:=HB6_7.out.cell 0 rfl
  have c6_1:=HB6_7.out.cell 1 rfl
  have c6_2:=HB6_7.out.cell 2 rfl
  have c4_0:=HB4_7.out.cell 0 rfl
  have c4_1:=HB4_7.out.cell 1 rfl
  have c4_2:=HB4_7.out.cell 2 rfl
  have c3_0:=HB3_7.out.cell 0 rfl
  have c3_1:=HB3_7.out.cell 1 rfl
  have c3_2:=HB3_7.out.cell 2 rfl
  have c3_3:=HB3_7.out.cell 3 rfl
  go_wp2_with fail
  refine (raxis_none t p9 _ (HG.out.ext HX7.out) HtQ.out HtI.out HtZ.out Hp9E.out HN0.out).mono ?_;rintro e w8 ⟨rfl,e8⟩
  have HX8:Hid (Ext w w8):=Lib.hid (HX7.out.trans e8)
  have HB2_8:=Lib.hid (Blk.ext HB2_7.out e8)
  clear e8 c6_0 c6_1 c6_2 c4_0 c4_1 c4_2 c3_0 c3_1 c3_2 c3_3
  go_wp2_with fail
  refine wp_name (fun W=>Ext w W∧Blk W (w.heap.size+1+1) #[.int .i8 y0,.int .i8 y1] 80) ⟨(HX8.out.alloc _),(HB2_8.out.alloc _)⟩ ?_
  rintro w9 ⟨e9,bB2_9⟩
  have HX9:=Lib.hid e9;have HB2_9:=Lib.hid bB2_9
  clear e9 bB2_9
  refine region_lin [.val (.pointer (some ⟨w.heap.size+1+1,0,none⟩)),.val (.int .i8 y0),.val (.int .i64 y0),.val (.int .i64 i),.val (.pointer (some ⟨w.heap.size+1+1,1,none⟩)),.val (.int .i8 y1),.val (.int .i64 y1),.val (.int .i64 k),.val (.int .i64 i),.val (.int .i64 k)] (by kernel_rfl) (by kernel_rfl) (by kernel_rfl) ?_ (fun g9 w10 hx_ hm_ hne_=>?_)
  · skip
    refine RnL.cons (fun g9 A_ W_ hs_=>?_) ?_
    · have q5_:=(hs_.old 5 (by kernel_rfl):A_.tmps[5]?.getD undef = .pointer (some ⟨w.heap.size+1+1,0,none⟩))
      refine Rn.val fun K_ hK_=>?_
      go_simp
      exact hK_.out _ (Ext.refl _)
    refine RnL.cons (fun g9 A_ W_ hs_=>?_) ?_
    · have q75_:=hs_.val 0 rfl rfl rfl
      have cB2_0:=((HB2_9.out.drew.ext hs_.1)).cell 0 rfl
      refine Rn.val fun K_ hK_=>?_
      go_simp
      exact hK_.out _ (Ext.refl _)
    refine RnL.cons (fun g9 A_ W_ hs_=>?_) ?_
    · have q76_:=hs_.val 1 rfl rfl rfl
      refine Rn.val fun K_ hK_=>?_
      go_simp
      try go_bits
      exact hK_.out _ (Ext.refl _)
    refine RnL.cons (fun g9 A_ W_ hs_=>?_) ?_
    · have q77_:=hs_.val 2 rfl rfl rfl
      refine Rn.val fun K_ hK_=>?_
      go_simp
      try go_bits
      exact hK_.out _ (Ext.refl _)
    refine RnL.cons (fun g9 A_ W_ hs_=>?_) ?_
    · have q5_:=(hs_.old 5 (by kernel_rfl):A_.tmps[5]?.getD undef = .pointer (some ⟨w.heap.size+1+1,0,none⟩))
      refine Rn.val fun K_ hK_=>?_
      go_simp
      exact hK_.out _ (Ext.refl _)
    refine RnL.cons (fun g9 A_ W_ hs_=>?_) ?_
    · have q79_:=hs_.val 4 rfl rfl rfl
      have cB2_1:=((HB2_9.out.drew.ext hs_.1)).cell 1 rfl
      refine Rn.val fun K_ hK_=>?_
      go_simp
      exact hK_.out _ (Ext.refl _)
    refine RnL.cons (fun g9 A_ W_ hs_=>?_) ?_
    · have q80_:=hs_.val 5 rfl rfl rfl
      refine Rn.val fun K_ hK_=>?_
      go_simp
      try go_bits
      exact hK_.out _ (Ext.refl _)
    refine RnL.cons (fun g9 A_ W_ hs_=>?_) ?_
    · have q81_:=hs_.val 6 rfl rfl rfl
      refine Rn.val fun K_ hK_=>?_
      go_simp
      try go_bits
      exact hK_.out _ (Ext.refl _)
    refine RnL.cons (fun g9 A_ W_ hs_=>?_) ?_
    · have q78_:=hs_.val 3 rfl rfl rfl
      refine Rn.val fun K_ hK_=>?_
      go_simp
      exact hK_.out _ (Ext.refl _)
    refine RnL.cons (fun g9 A_ W_ hs_=>?_) ?_
    · have q82_:=hs_.val 7 rfl rfl rfl
      refine Rn.val fun K_ hK_=>?_
      go_simp
      exact hK_.out _ (Ext.refl _)
    exact RnL.nil
  simp only [fs,Kd.value,puts,Act.put,List.setIfInBounds_toArray,List.set_cons_zero,List.set_cons_succ]
  have HX10:Hid (Ext w w10):=Lib.hid (HX9.out.drew.trans hx_)
  clear hx_ hm_ hne_
  go_wp2_with fail
  refine (sof_as (2*i*k) 0 (i*i-k*k) V0 HV0E.out _ (HG.out.ext HX10.out) HIB.out.1 na0 HIB.out.2.1).mono ?_;rintro e w11 ⟨rfl,e11⟩
  have HX11:Hid (Ext w w11):=Lib.hid (HX10.out.trans e11)
  clear e11
  go_wp2_with fail
  refine (rapply_as ⟨3,0,0,1⟩ V0 V1 HT1.out _ (HG.out.ext (HX11.out.alloc _)) ⟨by decide,by decide,by decide,by decide⟩ (by rintro ⟨h,_⟩;exact absurd h (by decide)) HV0.out (by decide)).mono ?_;rintro e w12 ⟨rfl,e12⟩
  have HX12:Hid (Ext w w12):=Lib.hid ((HX11.out.alloc _).trans e12)
  clear e12
  go_wp2_with fail
  refine ((HV1E.out▸HUC.out _ (HG.out.ext (HX12.out.alloc _)))).mono ?_;rintro e w13 ⟨rfl,e13⟩
  have HX13:Hid (Ext w w13):=Lib.hid ((HX12.out.alloc _).trans e13)
  have HB9_13:Hid (Blk w13 (w12.heap.size) #[.string (qs V1.x),.string (qs V1.y),.string (qs V1.z)] 31):=Lib.hid (Blk.ext (Blk.new' (w:=_) (cs:=#[.string (qs V1.x),.string (qs V1.y),.string (qs V1.z)]) (t:=31) (by first|rfl|(simp only [World.size_alloc];done)|(simp only [World.size_alloc];omega)|simp)) e13)
  have HGEB9:Hid (w.heap.size≤w12.heap.size):=Lib.hid (HX12.out.size)
  clear e13
  go_upto_region 19 with fail
  refine wp_name (fun W=>Ext w W∧Blk W (w12.heap.size) #[.string (qs V1.x),.string (qs V1.y),.string (qs V1.z)] 31∧Blk W (w13.heap.size) #[.int .i64 u.w,.int .i64 u.x,.int .i64 u.y,.int .i64 u.z] 22) ⟨(HX13.out.alloc _),(HB9_13.out.alloc _),(Blk.new' (w:=_) (cs:=#[.int .i64 u.w,.int .i64 u.x,.int .i64 u.y,.int .i64 u.z]) (t:=22) (by first|rfl|(simp only [World.size_alloc];done)|(simp only [World.size_alloc];omega)|simp))⟩ ?_
  rintro w14 ⟨e14,bB9_14,bB10_14⟩
  have HX14:=Lib.hid e14;have HB9_14:=Lib.hid bB9_14;have HB10_14:=Lib.hid bB10_14
  have HGEB10:Hid (w.heap.size≤w13.heap.size):=Lib.hid (HX13.out.size)
  clear e14 bB9_14 bB10_14
  have c10_0:=HB10_14.out.cell 0 rfl
  have c10_1:=HB10_14.out.cell 1 rfl
  have c10_2:=HB10_14.out.cell 2 rfl
  have c10_3:=HB10_14.out.cell 3 rfl
  have c9_0:=HB9_14.out.cell 0 rfl
  have c9_1:=HB9_14.out.cell 1 rfl
  have c9_2:=HB9_14.out.cell 2 rfl
  go_wp2_with fail
  refine (rapply_as u V1 V2 (by rw [← HV1E.out,← HV2E.out];exact HUU.out) _ (HG.out.ext HX14.out) HUI.out HUZ.out HV1.out (by decide)).mono ?_;rintro e w15 ⟨rfl,e15⟩
  have HX15:Hid (Ext w w15):=Lib.hid (HX14.out.trans e15)
  clear e15 c10_0 c10_1 c10_2 c10_3 c9_0 c9_1 c9_2
  go_wp2_with fail
  refine wp_name (fun W=>Ext w W∧Blk W (w15.heap.size) #[.string (qs V2.x),.string (qs V2.y),.string (qs V2.z)] 31) ⟨(HX15.out.alloc _),(Blk.new' (w:=_) (cs:=#[.string (qs V2.x),.string (qs V2.y),.string (qs V2.z)]) (t:=31) (by first|rfl|(simp only [World.size_alloc];done)|(simp only [World.size_alloc];omega)|simp))⟩ ?_
  rintro w16 ⟨e16,bB11_16⟩
  have HX16:=Lib.hid e16;have HB11_16:=Lib.hid bB11_16
  have HGEB11:Hid (w.heap.size≤w15.heap.size):=Lib.hid (HX15.out.size)
  clear e16 bB11_16
  refine region_lin [.val (.int .i64 0),.val (.bool true),.val (.bool true),.val (.agg #[.string (qs V2.x),.string (qs V2.y),.string (qs V2.z)]),.val (.int .i64 i),.val (.int .i64 i),.val (.int .i64 (i*i)),.val (.int .i64 k),.val (.int .i64 k),.val (.int .i64 (k*k)),.val (.int .i64 (i*i+k*k)),.val (.agg #[.string (qs V2.x),.string (qs V2.y),.string (qs V2.z)]),.val (.bool true),.val (.bool true),.val (.bool true)] (by kernel_rfl) (by kernel_rfl) (by kernel_rfl) ?_ (fun g16 w17 hx_ hm_ hne_=>?_)
  · skip
    refine RnL.cons (fun g16 A_ W_ hs_=>?_) ?_
    · have q25_:=(hs_.old 25 (by kernel_rfl):A_.tmps[25]?.getD undef = .int .i64 0)
      refine Rn.val fun K_ hK_=>?_
      go_simp
      exact hK_.out _ (Ext.refl _)
    refine RnL.cons (fun g16 A_ W_ hs_=>?_) ?_
    · have q132_:=hs_.val 0 rfl rfl rfl
      refine Rn.val fun K_ hK_=>?_
      go_simp
      exact hK_.out _ (Ext.refl _)
    refine RnL.cons (fun g16 A_ W_ hs_=>?_) ?_
    · have q133_:=hs_.val 1 rfl rfl rfl
      refine Rn.val fun K_ hK_=>?_
      go_simp
      exact hK_.out _ (Ext.refl _)
    refine RnL.cons (fun g16 A_ W_ hs_=>?_) ?_
    · have q24_:=(hs_.old 24 (by kernel_rfl):A_.tmps[24]?.getD undef = .pointer (some ⟨w15.heap.size,0,none⟩))
      have cB11_0:=((HB11_16.out.drew.ext hs_.1)).cell 0 rfl
      have cB11_1:=((HB11_16.out.drew.ext hs_.1)).cell 1 rfl
      have cB11_2:=((HB11_16.out.drew.ext hs_.1)).cell 2 rfl
      refine Rn.val fun K_ hK_=>?_
      go_simp
      exact hK_.out _ (Ext.refl _)
    refine RnL.cons (fun g16 A_ W_ hs_=>?_) ?_
    · have q17_:=(hs_.old 17 (by kernel_rfl):A_.tmps[17]?.getD undef = .int .i64 i)
      refine Rn.val fun K_ hK_=>?_
      go_simp
      exact hK_.out _ (Ext.refl _)
    refine RnL.cons (fun g16 A_ W_ hs_=>?_) ?_
    · have q17_:=(hs_.old 17 (by kernel_rfl):A_.tmps[17]?.getD undef = .int .i64 i)
      refine Rn.val fun K_ hK_=>?_
      go_simp
      exact hK_.out _ (Ext.refl _)
    refine RnL.cons (fun g16 A_ W_ hs_=>?_) ?_
    · have q136_:=hs_.val 4 rfl rfl rfl
      have q137_:=hs_.val 5 rfl rfl rfl
      refine Rn.val fun K_ hK_=>?_
      go_simp
      try go_bits
      exact hK_.out _ (Ext.refl _)
    refine RnL.cons (fun g16 A_ W_ hs_=>?_) ?_
    · have q18_:=(hs_.old 18 (by kernel_rfl):A_.tmps[18]?.getD undef = .int .i64 k)
      refine Rn.val fun K_ hK_=>?_
      go_simp
      exact hK_.out _ (Ext.refl _)
    refine RnL.cons (fun g16 A_ W_ hs_=>?_) ?_
    · have q18_:=(hs_.old 18 (by kernel_rfl):A_.tmps[18]?.getD undef = .int .i64 k)
      refine Rn.val fun K_ hK_=>?_
      go_simp
      exact hK_.out _ (Ext.refl _)
    refine RnL.cons (fun g16 A_ W_ hs_=>?_) ?_
    · have q139_:=hs_.val 7 rfl rfl rfl
      have q140_:=hs_.val 8 rfl rfl rfl
      refine Rn.val fun K_ hK_=>?_
      go_simp
      try go_bits
      exact hK_.out _ (Ext.refl _)
    refine RnL.cons (fun g16 A_ W_ hs_=>?_) ?_
    · have q138_:=hs_.val 6 rfl rfl rfl
      have q141_:=hs_.val 9 rfl rfl rfl
      refine Rn.val fun K_ hK_=>?_
      go_simp
      try go_bits
      exact hK_.out _ (Ext.refl _)
    refine RnL.cons (fun g16 A_ W_ hs_=>?_) ?_
    · have q142_:=hs_.val 10 rfl rfl rfl
      refine Rn.val fun K_ hK_=>?_
      go_simp
      refine (sof_as 0 0 (i*i+k*k) V2 HV2E.out _ (HG.out.ext (HX16.out.drew.trans hs_.1)) na0 na0 HIB.out.2.2).mono ?_;rintro e W9_ ⟨rfl,e9_⟩;exact hK_.out _ e9_
    refine RnL.cons (fun g16 A_ W_ hs_=>?_) ?_
    · have q135_:=hs_.val 3 rfl rfl rfl
      have q143_:=hs_.val 11 rfl rfl rfl
      refine Rn.val fun K_ hK_=>?_
      go_simp
      exact hK_.out _ (Ext.refl _)
    refine RnL.cons (fun g16 A_ W_ hs_=>?_) ?_
    · have q134_:=hs_.val 2 rfl rfl rfl
      have q144_:=hs_.val 12 rfl rfl rfl
      refine Rn.val fun K_ hK_=>?_
      go_simp
      exact hK_.out _ (Ext.refl _)
    refine RnL.cons (fun g16 A_ W_ hs_=>?_) ?_
    · have q145_:=hs_.val 13 rfl rfl rfl
      refine Rn.val fun K_ hK_=>?_
      go_simp
      exact hK_.out _ (Ext.refl _)
    exact RnL.nil
  simp only [fs,Kd.value,puts,Act.put,List.setIfInBounds_toArray,List.set_cons_zero,List.set_cons_succ]
  have HX17:Hid (Ext w w17):=Lib.hid (HX16.out.drew.trans hx_)
  clear hx_ hm_ hne_
  go_wp2
  go_ret
  exact ⟨rfl,HX17.out⟩

set_option maxHeartbeats 32000000 in
theorem keeps17_noneZ (n0 n1 n2 n3:Int) (p:Pla) (y0 y1:Int) (w:World) (g:Gd w) (hn0:-128≤n0∧n0≤127) (hn1:-128≤n1∧n1≤127) (hn2:-128≤n2∧n2≤127) (hn3:-128≤n3∧n3≤127) (hp:PlaOk p) (hy0:-128≤y0∧y0≤127) (hy1:-128≤y1∧y1≤127) (ey0:y0.tmod 10=0) (ey1:y1.tmod 10=0) (hz:(iv (prim4 (mk4 n0 n1 n2 n3)).x (prim4 (mk4 n0 n1 n2 n3)).y (prim4 (mk4 n0 n1 n2 n3)).z).x=0∧(iv (prim4 (mk4 n0 n1 n2 n3)).x (prim4 (mk4 n0 n1 n2 n3)).y (prim4 (mk4 n0 n1 n2 n3)).z).y=0∧(iv (prim4 (mk4 n0 n1 n2 n3)).x (prim4 (mk4 n0 n1 n2 n3)).y (prim4 (mk4 n0 n1 n2 n3)).z).z=0):Calls Tryz.prog 9 #[.agg #[.int .i8 n0,.int .i8 n1,.int .i8 n2,.int .i8 n3],.agg #[.int .i16 p.n0,.int .u8 (p.d0:Int),.int .i16 p.n1,.int .u8 (p.d1:Int),.int .i16 p.n2,.int .u8 (p.d2:Int)],.agg #[.int .i8 y0,.int .i8 y1]] w (Ret w (.bool true)):=by
  have Hp:=Lib.hid hp
  have HG:=Lib.hid g
  clear hp g
  have HtB:Hid ((-128≤n0∧n0≤127)∧(-128≤n1∧n1≤127)∧(-128≤n2∧n2≤127)∧(-128≤n3∧n3≤127)):=Lib.hid ⟨hn0,hn1,hn2,hn3⟩
  clear hn0 hn1 hn2 hn3
  obtain ⟨t,et⟩:∃ t,mk4 n0 n1 n2 n3=t:=⟨_,rfl⟩
  have HtE:=Lib.hid et;have HtS:Hid (Q4S t):=Lib.hid (et▸mk4_s n0 n1 n2 n3);have HtZ:Hid (¬ t.zero):=Lib.hid (et▸mk4_nz n0 n1 n2 n3);clear et
  have HtI:Hid (Q4In t):=Lib.hid HtS.out.inn;have HtQ:Hid (QErr t 0):=Lib.hid (.ok HtI.out HtZ.out)
  obtain ⟨c,ec⟩:∃ c,pvec p=c:=⟨_,rfl⟩
  have HcE:=Lib.hid ec;have Hc:Hid (VB 5 c):=Lib.hid (ec▸Hp.out.v);clear ec
  obtain ⟨p9,ep9⟩:∃ x,prim4 t=x:=⟨_,rfl⟩
  have Hp9E:=Lib.hid ep9;clear ep9
  have HPS:Hid (Q4S p9):=Lib.hid (Hp9E.out▸prim4_s HtS.out)
  obtain ⟨A,eA⟩:∃ x,iv p9.x p9.y p9.z=x:=⟨_,rfl⟩
  have HAE:=Lib.hid eA;clear eA
  have HPN:Hid (p9.x.natAbs<100000∧p9.y.natAbs<100000∧p9.z.natAbs<100000):=Lib.hid ⟨by have:=HPS.out.x;omega,by have:=HPS.out.y;omega,by have:=HPS.out.z;omega⟩
  have HAV:Hid (VB 2 A):=Lib.hid (by rw [← HAE.out];exact ⟨QB.int ⟨by have:=HPS.out.x;omega⟩ (by decide),QB.int ⟨by have:=HPS.out.y;omega⟩ (by decide),QB.int ⟨by have:=HPS.out.z;omega⟩ (by decide)⟩)
  obtain ⟨r1,er1⟩:∃ x,row1 t=x:=⟨_,rfl⟩
  have Hr1E:=Lib.hid er1;clear er1
  obtain ⟨r2,er2⟩:∃ x,row2 t=x:=⟨_,rfl⟩
  have Hr2E:=Lib.hid er2;clear er2
  obtain ⟨r3,er3⟩:∃ x,row3 t=x:=⟨_,rfl⟩
  have Hr3E:=Lib.hid er3;clear er3
  obtain ⟨Rc,eRc⟩:∃ x,rot t c=x:=⟨_,rfl⟩
  have HRcE:=Lib.hid eRc;clear eRc
  obtain ⟨S,eS⟩:∃ x,sub3 c Rc=x:=⟨_,rfl⟩
  have HSE:=Lib.hid eS;clear eS
  have HRc:Hid (VB 31 Rc):=Lib.hid (HRcE.out▸rot_qbS HtS.out HtZ.out Hc.out)
  have HS:Hid (VB 60 S):=Lib.hid ((HSE.out▸sub3_vb Hc.out HRc.out:VB 37 S).mono (by decide))
  have HRW:Hid (VB 60 r1∧VB 60 r2∧VB 60 r3):=Lib.hid (by rw [← Hr1E.out,← Hr2E.out,← Hr3E.out];exact rows_qbS HtI.out HtZ.out)
  have wy0_:IntKind.i64.wrap y0=y0:=IntWalk.i64_in y0 (by omega)
  have wy1_:IntKind.i64.wrap y1=y1:=IntWalk.i64_in y1 (by omega)
  have HIV:Hid (VB 5 (iv 0 0 0)):=Lib.hid (iv_vb na0 na0 na0)
  have HPV:Hid (VB 25 (pyv 0 0)):=Lib.hid (py_vb (by decide) (by decide))
  obtain ⟨V0,eV0⟩:∃ x,iv 0 0 0=x:=⟨_,rfl⟩
  have HV0E:=Lib.hid eV0;clear eV0
  obtain ⟨V1,eV1⟩:∃ x,pyv 0 0=x:=⟨_,rfl⟩
  have HV1E:=Lib.hid eV1;clear eV1
  have HV0:Hid (VB 5 V0):=Lib.hid (HV0E.out▸HIV.out)
  have HV1:Hid (VB 25 V1):=Lib.hid (HV1E.out▸HPV.out)
  have HT1:Hid (rot ⟨3,0,0,1⟩ V0=V1):=Lib.hid (by rw [← HV0E.out,← HV1E.out];exact (py_rot 0 0))
  have HN0:Hid (p9.x=0∧p9.y=0∧p9.z=0):=Lib.hid (iv_nz.1 (by rw [← Hp9E.out,← HtE.out];exact hz))
  clear hz
  go_enter Tryz.func9,Tryz.ntmps9
  go_wp2_with fail
  refine (known17_c _ (HG.out.ext ((((Ext.refl w).alloc _).alloc _).alloc _))).mono ?_;rintro e w1 ⟨rfl,e1⟩
  have HX1:Hid (Ext w w1):=Lib.hid (((((Ext.refl w).alloc _).alloc _).alloc _).trans e1)
  have HB0_1:Hid (Blk w1 (w.heap.size) #[.int .i8 n0,.int .i8 n1,.int .i8 n2,.int .i8 n3] 49):=Lib.hid (Blk.ext (((Blk.new' (w:=_) (cs:=#[.int .i8 n0,.int .i8 n1,.int .i8 n2,.int .i8 n3]) (t:=49) (by first|rfl|(simp only [World.size_alloc];done)|(simp only [World.size_alloc];omega)|simp)).alloc _).alloc _) e1)
  have HB1_1:Hid (Blk w1 (w.heap.size+1) #[.int .i16 p.n0,.int .u8 (p.d0:Int),.int .i16 p.n1,.int .u8 (p.d1:Int),.int .i16 p.n2,.int .u8 (p.d2:Int)] 54):=Lib.hid (Blk.ext ((Blk.new' (w:=_) (cs:=#[.int .i16 p.n0,.int .u8 (p.d0:Int),.int .i16 p.n1,.int .u8 (p.d1:Int),.int .i16 p.n2,.int .u8 (p.d2:Int)]) (t:=54) (by first|rfl|(simp only [World.size_alloc];done)|(simp only [World.size_alloc];omega)|simp)).alloc _) e1)
  have HB2_1:Hid (Blk w1 (w.heap.size+1+1) #[.int .i8 y0,.int .i8 y1] 80):=Lib.hid (Blk.ext (Blk.new' (w:=_) (cs:=#[.int .i8 y0,.int .i8 y1]) (t:=80) (by first|rfl|(simp only [World.size_alloc];done)|(simp only [World.size_alloc];omega)|simp)) e1)
  have HGEB0:Hid (w.heap.size≤w.heap.size):=Lib.hid (Nat.le_refl _)
  have HGEB1:Hid (w.heap.size≤w.heap.size+1):=Lib.hid (by omega)
  have HGEB2:Hid (w.heap.size≤w.heap.size+1+1):=Lib.hid (by omega)
  clear e1
  go_wp2_with fail
  refine wp_name (fun W=>Ext w W∧Blk W (w.heap.size) #[.int .i8 n0,.int .i8 n1,.int .i8 n2,.int .i8 n3] 49∧Blk W (w.heap.size+1) #[.int .i16 p.n0,.int .u8 (p.d0:Int),.int .i16 p.n1,.int .u8 (p.d1:Int),.int .i16 p.n2,.int .u8 (p.d2:Int)] 54∧Blk W (w.heap.size+1+1) #[.int .i8 y0,.int .i8 y1] 80) ⟨HX1.out,HB0_1.out,HB1_1.out,HB2_1.out⟩ ?_
  rintro w2 ⟨e2,bB0_2,bB1_2,bB2_2⟩
  have HX2:=Lib.hid e2;have HB0_2:=Lib.hid bB0_2;have HB1_2:=Lib.hid bB1_2;have HB2_2:=Lib.hid bB2_2
  clear e2 bB0_2 bB1_2 bB2_2
  refine region_lin [.val (.agg #[.int .i8 n0,.int .i8 n1,.int .i8 n2,.int .i8 n3]),.val (.agg #[.int .i64 t.w,.int .i64 t.x,.int .i64 t.y,.int .i64 t.z]),.val (.agg #[.int .i16 p.n0,.int .u8 (p.d0:Int),.int .i16 p.n1,.int .u8 (p.d1:Int),.int .i16 p.n2,.int .u8 (p.d2:Int)]),.val (.agg #[.string (qs c.x),.string (qs c.y),.string (qs c.z)]),.mem (fun b_ => .pointer (some ⟨b_,0,none⟩)) #[.int .i64 0,.int .i64 0,.int .i64 0,.int .i64 0] 22 (Option.some 6),.mem (fun b_ => .pointer (some ⟨b_,0,none⟩)) #[.string ⟨#[]⟩,.string ⟨#[]⟩,.string ⟨#[]⟩] 31 (Option.some 7),.put 4 #[.int .i64 t.w,.int .i64 t.x,.int .i64 t.y,.int .i64 t.z],.put 5 #[.string (qs c.x),.string (qs c.y),.string (qs c.z)]] (by kernel_rfl) (by kernel_rfl) (by kernel_rfl) ?_ (fun g2 w3 hx_ hm_ hne_=>?_)
  · skip
    refine RnL.cons (fun g2 A_ W_ hs_=>?_) ?_
    · have q3_:=(hs_.old 3 (by kernel_rfl):A_.tmps[3]?.getD undef = .pointer (some ⟨w.heap.size,0,none⟩))
      have cB0_0:=((HB0_2.out.drew.ext hs_.1)).cell 0 rfl
      have cB0_1:=((HB0_2.out.drew.ext hs_.1)).cell 1 rfl
      have cB0_2:=((HB0_2.out.drew.ext hs_.1)).cell 2 rfl
      have cB0_3:=((HB0_2.out.drew.ext hs_.1)).cell 3 rfl
      refine Rn.val fun K_ hK_=>?_
      go_simp
      exact hK_.out _ (Ext.refl _)
    refine RnL.cons (fun g2 A_ W_ hs_=>?_) ?_
    · have q28_:=hs_.val 0 rfl rfl rfl
      refine Rn.val fun K_ hK_=>?_
      go_simp
      refine (mk4_c n0 n1 n2 n3 t _ (HG.out.ext (HX2.out.drew.trans hs_.1)) HtB.out.1 HtB.out.2.1 HtB.out.2.2.1 HtB.out.2.2.2 HtE.out).mono ?_;rintro e W9_ ⟨rfl,e9_⟩;exact hK_.out _ e9_
    refine RnL.cons (fun g2 A_ W_ hs_=>?_) ?_
    · have q4_:=(hs_.old 4 (by kernel_rfl):A_.tmps[4]?.getD undef = .pointer (some ⟨w.heap.size+1,0,none⟩))
      have cB1_0:=((HB1_2.out.drew.ext hs_.1)).cell 0 rfl
      have cB1_1:=((HB1_2.out.drew.ext hs_.1)).cell 1 rfl
      have cB1_2:=((HB1_2.out.drew.ext hs_.1)).cell 2 rfl
      have cB1_3:=((HB1_2.out.drew.ext hs_.1)).cell 3 rfl
      have cB1_4:=((HB1_2.out.drew.ext hs_.1)).cell 4 rfl
      have cB1_5:=((HB1_2.out.drew.ext hs_.1)).cell 5 rfl
      refine Rn.val fun K_ hK_=>?_
      go_simp
      exact hK_.out _ (Ext.refl _)
    refine RnL.cons (fun g2 A_ W_ hs_=>?_) ?_
    · have q30_:=hs_.val 2 rfl rfl rfl
      refine Rn.val fun K_ hK_=>?_
      go_simp
      refine ((HcE.out▸make_c p _ (HG.out.ext (HX2.out.drew.trans hs_.1)) Hp.out)).mono ?_;rintro e W9_ ⟨rfl,e9_⟩;exact hK_.out _ e9_
    refine RnL.cons (fun g2 A_ W_ hs_=>?_) ?_
    · refine Rn.mem fun K_ hK_=>?_
      go_simp
      exact hK_.out
    refine RnL.cons (fun g2 A_ W_ hs_=>?_) ?_
    · refine Rn.mem fun K_ hK_=>?_
      go_simp
      exact hK_.out
    refine RnL.cons (fun g2 A_ W_ hs_=>?_) ?_
    · have q7_:=(hs_.mem 4 rfl rfl rfl).1
      have q29_:=hs_.val 1 rfl rfl rfl
      refine Rn.put (z:=#[.int .i64 0,.int .i64 0,.int .i64 0,.int .i64 0]) (t:=22) rfl fun hB K_ hK_=>?_
      have c_0:=hB.cell 0 rfl;have f_0:=hB.free 0
      have c_1:=hB.cell 1 rfl;have f_1:=hB.free 1
      have c_2:=hB.cell 2 rfl;have f_2:=hB.free 2
      have c_3:=hB.cell 3 rfl;have f_3:=hB.free 3
      have HB:=Lib.hid hB;clear hB
      go_simp
      exact hK_.out _ (((((Only.refl _ _).set 0 _).set 1 _).set 2 _).set 3 _) ((((HB.out.set 0 _).set 1 _).set 2 _).set 3 _)
    refine RnL.cons (fun g2 A_ W_ hs_=>?_) ?_
    · have q8_:=(hs_.mem 5 rfl rfl rfl).1
      have q31_:=hs_.val 3 rfl rfl rfl
      refine Rn.put (z:=#[.string ⟨#[]⟩,.string ⟨#[]⟩,.string ⟨#[]⟩]) (t:=31) rfl fun hB K_ hK_=>?_
      have c_0:=hB.cell 0 rfl;have f_0:=hB.free 0
      have c_1:=hB.cell 1 rfl;have f_1:=hB.free 1
      have c_2:=hB.cell 2 rfl;have f_2:=hB.free 2
      have HB:=Lib.hid hB;clear hB
      go_simp
      exact hK_.out _ ((((Only.refl _ _).set 0 _).set 1 _).set 2 _) (((HB.out.set 0 _).set 1 _).set 2 _)
    exact RnL.nil
  simp only [fs,Kd.value,puts,Act.put,List.setIfInBounds_toArray,List.set_cons_zero,List.set_cons_succ,Nat.reduceAdd]
  have HX3:Hid (Ext w w3):=Lib.hid (HX2.out.drew.trans hx_)
  have HB2_3:=Lib.hid (HB2_2.out.drew.ext hx_)
  have HB3_3:Hid (Blk w3 (g2 4) #[.int .i64 t.w,.int .i64 t.x,.int .i64 t.y,.int .i64 t.z] 22):=Lib.hid (hm_ 4 _ _ _ _ rfl).2;have HGEB3:Hid (w.heap.size≤g2 4):=Lib.hid (Nat.le_trans HX2.out.size (hm_ 4 _ _ _ _ rfl).1)
  have HB4_3:Hid (Blk w3 (g2 5) #[.string (qs c.x),.string (qs c.y),.string (qs c.z)] 31):=Lib.hid (hm_ 5 _ _ _ _ rfl).2;have HGEB4:Hid (w.heap.size≤g2 5):=Lib.hid (Nat.le_trans HX2.out.size (hm_ 5 _ _ _ _ rfl).1)
  have HNEB2B3:Hid (w.heap.size+1+1≠g2 4):=Lib.hid (Nat.ne_of_lt (Nat.lt_of_lt_of_le HB2_2.out.lt (hm_ 4 _ _ _ _ rfl).1))
  have HNEB2B4:Hid (w.heap.size+1+1≠g2 5):=Lib.hid (Nat.ne_of_lt (Nat.lt_of_lt_of_le HB2_2.out.lt (hm_ 5 _ _ _ _ rfl).1))
  have HNEB3B4:Hid (g2 4≠g2 5):=Lib.hid (hne_ 4 5 (by decide) ⟨_,_,_,_,rfl⟩ ⟨_,_,_,_,rfl⟩)
  clear hx_ hm_ hne_
  generalize g2 4=i3 at *
  generalize g2 5=i4 at *
  clear g2
  have c3_0:=HB3_3.out.cell 0 rfl
  have c3_1:=HB3_3.out.cell 1 rfl
  have c3_2:=HB3_3.out.cell 2 rfl
  have c3_3:=HB3_3.out.cell 3 rfl
  have c4_0:=HB4_3.out.cell 0 rfl
  have c4_1:=HB4_3.out.cell 1 rfl
  have c4_2:=HB4_3.out.cell 2 rfl
  go_wp2_with fail
  refine (rabout_c t c Rc S r1 r2 r3 HRcE.out HSE.out Hr1E.out Hr2E.out Hr3E.out _ (HG.out.ext HX3.out) HtI.out HtZ.out Hc.out (by decide)).mono ?_;rintro e w4 ⟨rfl,e4⟩
  have HX4:Hid (Ext w w4):=Lib.hid (HX3.out.trans e4)
  have HB2_4:=Lib.hid (Blk.ext HB2_3.out e4)
  have HB3_4:=Lib.hid (Blk.ext HB3_3.out e4)
  have HB4_4:=Lib.hid (Blk.ext HB4_3.out e4)
  clear e4 c3_0 c3_1 c3_2 c3_3 c4_0 c4_1 c4_2
  go_upto_region 5 with fail
  refine wp_name (fun W=>Ext w W∧Blk W (w.heap.size+1+1) #[.int .i8 y0,.int .i8 y1] 80∧Blk W (i3) #[.int .i64 t.w,.int .i64 t.x,.int .i64 t.y,.int .i64 t.z] 22∧Blk W (i4) #[.string (qs c.x),.string (qs c.y),.string (qs c.z)] 31∧Blk W (w4.heap.size) #[.string (qs r1.x),.string (qs r1.y),.string (qs r1.z),.string (qs r2.x),.string (qs r2.y),.string (qs r2.z),.string (qs r3.x),.string (qs r3.y),.string (qs r3.z),.string (qs S.x),.string (qs S.y),.string (qs S.z)] 66) ⟨(HX4.out.alloc _),(HB2_4.out.alloc _),(HB3_4.out.alloc _),(HB4_4.out.alloc _),(Blk.new' (w:=_) (cs:=#[.string (qs r1.x),.string (qs r1.y),.string (qs r1.z),.string (qs r2.x),.string (qs r2.y),.string (qs r2.z),.string (qs r3.x),.string (qs r3.y),.string (qs r3.z),.string (qs S.x),.string (qs S.y),.string (qs S.z)]) (t:=66) (by first|rfl|(simp only [World.size_alloc];done)|(simp only [World.size_alloc];omega)|simp))⟩ ?_
  rintro w5 ⟨e5,bB2_5,bB3_5,bB4_5,bB5_5⟩
  have HX5:=Lib.hid e5;have HB2_5:=Lib.hid bB2_5;have HB3_5:=Lib.hid bB3_5;have HB4_5:=Lib.hid bB4_5;have HB5_5:=Lib.hid bB5_5
  have HGEB5:Hid (w.heap.size≤w4.heap.size):=Lib.hid (HX4.out.size)
  clear e5 bB2_5 bB3_5 bB4_5 bB5_5
  have c5_0:=HB5_5.out.cell 0 rfl
  have c5_1:=HB5_5.out.cell 1 rfl
  have c5_2:=HB5_5.out.cell 2 rfl
  have c5_3:=HB5_5.out.cell 3 rfl
  have c5_4:=HB5_5.out.cell 4 rfl
  have c5_5:=HB5_5.out.cell 5 rfl
  have c5_6:=HB5_5.out.cell 6 rfl
  have c5_7:=HB5_5.out.cell 7 rfl
  have c5_8:=HB5_5.out.cell 8 rfl
  have c5_9:=HB5_5.out.cell 9 rfl
  have c5_10:=HB5_5.out.cell 10 rfl
  have c5_11:=HB5_5.out.cell 11 rfl
  have c4_0:=HB4_5.out.cell 0 rfl
  have c4_1:=HB4_5.out.cell 1 rfl
  have c4_2:=HB4_5.out.cell 2 rfl
  go_wp2_with fail
  refine (aapply_c r1 r2 r3 S c c _ (HG.out.ext HX5.out) HRW.out.1 HRW.out.2.1 HRW.out.2.2 HS.out (Hc.out.mono (by decide)) (Hc.out.mono (by decide)) (about_keeps HRcE.out HSE.out Hr1E.out Hr2E.out Hr3E.out)).mono ?_;rintro e w6 ⟨rfl,e6⟩
  have HX6:Hid (Ext w w6):=Lib.hid (HX5.out.trans e6)
  have HB2_6:=Lib.hid (Blk.ext HB2_5.out e6)
  have HB3_6:=Lib.hid (Blk.ext HB3_5.out e6)
  have HB4_6:=Lib.hid (Blk.ext HB4_5.out e6)
  clear e6 c5_0 c5_1 c5_2 c5_3 c5_4 c5_5 c5_6 c5_7 c5_8 c5_9 c5_10 c5_11 c4_0 c4_1 c4_2
  go_upto_region 6 with fail
  refine wp_name (fun W=>Ext w W∧Blk W (w.heap.size+1+1) #[.int .i8 y0,.int .i8 y1] 80∧Blk W (i3) #[.int .i64 t.w,.int .i64 t.x,.int .i64 t.y,.int .i64 t.z] 22∧Blk W (i4) #[.string (qs c.x),.string (qs c.y),.string (qs c.z)] 31∧Blk W (w6.heap.size) #[.string (qs c.x),.string (qs c.y),.string (qs c.z)] 31) ⟨(HX6.out.alloc _),(HB2_6.out.alloc _),(HB3_6.out.alloc _),(HB4_6.out.alloc _),(Blk.new' (w:=_) (cs:=#[.string (qs c.x),.string (qs c.y),.string (qs c.z)]) (t:=31) (by first|rfl|(simp only [World.size_alloc];done)|(simp only [World.size_alloc];omega)|simp))⟩ ?_
  rintro w7 ⟨e7,bB2_7,bB3_7,bB4_7,bB6_7⟩
  have HX7:=Lib.hid e7;have HB2_7:=Lib.hid bB2_7;have HB3_7:=Lib.hid bB3_7;have HB4_7:=Lib.hid bB4_7;have HB6_7:=Lib.hid bB6_7
  have HGEB6:Hid (w.heap.size≤w6.heap.size):=Lib.hid (HX6.out.size)
  clear e7 bB2_7 bB3_7 bB4_7 bB6_7
  have c6_0:=HB6_7.out.cell 0 rfl
  have c6_1:=HB6_7.out.cell 1 rfl
  have c6_2:=HB6_7.out.cell 2 rfl
  have c4_0:=HB4_7.out.cell 0 rfl
  have c4_1:=HB4_7.out.cell 1 rfl
  have c4_2:=HB4_7.out.cell 2 rfl
  have c3_0:=HB3_7.out.cell 0 rfl
  have c3_1:=HB3_7.out.cell 1 rfl
  have c3_2:=HB3_7.out.cell 2 rfl
  have c3_3:=HB3_7.out.cell 3 rfl
  go_wp2_with fail
  refine (raxis_none t p9 _ (HG.out.ext HX7.out) HtQ.out HtI.out HtZ.out Hp9E.out HN0.out).mono ?_;rintro e w8 ⟨rfl,e8⟩
  have HX8:Hid (Ext w w8):=Lib.hid (HX7.out.trans e8)
  have HB2_8:=Lib.hid (Blk.ext HB2_7.out e8)
  clear e8 c6_0 c6_1 c6_2 c4_0 c4_1 c4_2 c3_0 c3_1 c3_2 c3_3
  go_wp2_with fail
  refine wp_name (fun W=>Ext w W∧Blk W (w.heap.size+1+1) #[.int .i8 y0,.int .i8 y1] 80) ⟨(HX8.out.alloc _),(HB2_8.out.alloc _)⟩ ?_
  rintro w9 ⟨e9,bB2_9⟩
  have HX9:=Lib.hid e9;have HB2_9:=Lib.hid bB2_9
  clear e9 bB2_9
  refine region_lin [.val (.pointer (some ⟨w.heap.size+1+1,0,none⟩)),.val (.int .i8 y0),.val (.int .i64 y0),.val (.int .i64 0),.val (.pointer (some ⟨w.heap.size+1+1,1,none⟩)),.val (.int .i8 y1),.val (.int .i64 y1),.val (.int .i64 0),.val (.int .i64 0),.val (.int .i64 0)] (by kernel_rfl) (by kernel_rfl) (by kernel_rfl) ?_ (fun g9 w10 hx_ hm_ hne_=>?_)
  · skip
    refine RnL.cons (fun g9 A_ W_ hs_=>?_) ?_
    · have q5_:=(hs_.old 5 (by kernel_rfl):A_.tmps[5]?.getD undef = .pointer (some ⟨w.heap.size+1+1,0,none⟩))
      refine Rn.val fun K_ hK_=>?_
      go_simp
      exact hK_.out _ (Ext.refl _)
    refine RnL.cons (fun g9 A_ W_ hs_=>?_) ?_
    · have q75_:=hs_.val 0 rfl rfl rfl
      have cB2_0:=((HB2_9.out.drew.ext hs_.1)).cell 0 rfl
      refine Rn.val fun K_ hK_=>?_
      go_simp
      exact hK_.out _ (Ext.refl _)
    refine RnL.cons (fun g9 A_ W_ hs_=>?_) ?_
    · have q76_:=hs_.val 1 rfl rfl rfl
      refine Rn.val fun K_ hK_=>?_
      go_simp
      try go_bits
      exact hK_.out _ (Ext.refl _)
    refine RnL.cons (fun g9 A_ W_ hs_=>?_) ?_
    · have q77_:=hs_.val 2 rfl rfl rfl
      refine Rn.val fun K_ hK_=>?_
      go_simp
      try go_bits
      exact hK_.out _ (Ext.refl _)
    refine RnL.cons (fun g9 A_ W_ hs_=>?_) ?_
    · have q5_:=(hs_.old 5 (by kernel_rfl):A_.tmps[5]?.getD undef = .pointer (some ⟨w.heap.size+1+1,0,none⟩))
      refine Rn.val fun K_ hK_=>?_
      go_simp
      exact hK_.out _ (Ext.refl _)
    refine RnL.cons (fun g9 A_ W_ hs_=>?_) ?_
    · have q79_:=hs_.val 4 rfl rfl rfl
      have cB2_1:=((HB2_9.out.drew.ext hs_.1)).cell 1 rfl
      refine Rn.val fun K_ hK_=>?_
      go_simp
      exact hK_.out _ (Ext.refl _)
    refine RnL.cons (fun g9 A_ W_ hs_=>?_) ?_
    · have q80_:=hs_.val 5 rfl rfl rfl
      refine Rn.val fun K_ hK_=>?_
      go_simp
      try go_bits
      exact hK_.out _ (Ext.refl _)
    refine RnL.cons (fun g9 A_ W_ hs_=>?_) ?_
    · have q81_:=hs_.val 6 rfl rfl rfl
      refine Rn.val fun K_ hK_=>?_
      go_simp
      try go_bits
      exact hK_.out _ (Ext.refl _)
    refine RnL.cons (fun g9 A_ W_ hs_=>?_) ?_
    · have q78_:=hs_.val 3 rfl rfl rfl
      refine Rn.val fun K_ hK_=>?_
      go_simp
      exact hK_.out _ (Ext.refl _)
    refine RnL.cons (fun g9 A_ W_ hs_=>?_) ?_
    · have q82_:=hs_.val 7 rfl rfl rfl
      refine Rn.val fun K_ hK_=>?_
      go_simp
      exact hK_.out _ (Ext.refl _)
    exact RnL.nil
  simp only [fs,Kd.value,puts,Act.put,List.setIfInBounds_toArray,List.set_cons_zero,List.set_cons_succ]
  have HX10:Hid (Ext w w10):=Lib.hid (HX9.out.drew.trans hx_)
  clear hx_ hm_ hne_
  go_wp2_with fail
  refine (sof_as 0 0 0 V0 HV0E.out _ (HG.out.ext HX10.out) na0 na0 na0).mono ?_;rintro e w11 ⟨rfl,e11⟩
  have HX11:Hid (Ext w w11):=Lib.hid (HX10.out.trans e11)
  clear e11
  go_wp2_with fail
  refine (rapply_as ⟨3,0,0,1⟩ V0 V1 HT1.out _ (HG.out.ext (HX11.out.alloc _)) ⟨by decide,by decide,by decide,by decide⟩ (by rintro ⟨h,_⟩;exact absurd h (by decide)) HV0.out (by decide)).mono ?_;rintro e w12 ⟨rfl,e12⟩
  have HX12:Hid (Ext w w12):=Lib.hid ((HX11.out.alloc _).trans e12)
  clear e12
  go_wp2_with fail
  refine (runt_z V1 _ (HG.out.ext (HX12.out.alloc _)) HV1.out (by decide) (HV1E.out▸py_z0.1) (HV1E.out▸py_z0.2.1) (HV1E.out▸py_z0.2.2)).mono ?_;rintro e w13 ⟨rfl,e13⟩
  have HX13:Hid (Ext w w13):=Lib.hid ((HX12.out.alloc _).trans e13)
  clear e13
  go_wp2
  go_ret
  exact ⟨rfl,(HX13.out.alloc _)⟩

theorem keeps17_walk (n0 n1 n2 n3:Int) (p:Pla) (y0 y1:Int) (w:World) (g:Gd w) (hn0:-128≤n0∧n0≤127) (hn1:-128≤n1∧n1≤127) (hn2:-128≤n2∧n2≤127) (hn3:-128≤n3∧n3≤127) (hp:PlaOk p) (hy0:-128≤y0∧y0≤127) (hy1:-128≤y1∧y1≤127):Calls Tryz.prog 9 #[.agg #[.int .i8 n0,.int .i8 n1,.int .i8 n2,.int .i8 n3],.agg #[.int .i16 p.n0,.int .u8 (p.d0:Int),.int .i16 p.n1,.int .u8 (p.d1:Int),.int .i16 p.n2,.int .u8 (p.d2:Int)],.agg #[.int .i8 y0,.int .i8 y1]] w (Ret w (.bool true)):=by
  by_cases hz:(iv (prim4 (mk4 n0 n1 n2 n3)).x (prim4 (mk4 n0 n1 n2 n3)).y (prim4 (mk4 n0 n1 n2 n3)).z).x=0∧(iv (prim4 (mk4 n0 n1 n2 n3)).x (prim4 (mk4 n0 n1 n2 n3)).y (prim4 (mk4 n0 n1 n2 n3)).z).y=0∧(iv (prim4 (mk4 n0 n1 n2 n3)).x (prim4 (mk4 n0 n1 n2 n3)).y (prim4 (mk4 n0 n1 n2 n3)).z).z=0
  · cases py_out (tmod10' y0) (tmod10' y1) with
    | zero hi hk=>exact keeps17_noneZ n0 n1 n2 n3 p y0 y1 w g hn0 hn1 hn2 hn3 hp hy0 hy1 hi hk hz
    | some u hi hu0 hu hn hc=>exact keeps17_noneU n0 n1 n2 n3 p y0 y1 _ _ u w g hn0 hn1 hn2 hn3 hp hy0 hy1 rfl rfl hz hi hu0 hu hc
  · cases py_out (tmod10' y0) (tmod10' y1) with
    | zero hi hk=>exact keeps17_okZ n0 n1 n2 n3 p y0 y1 w g hn0 hn1 hn2 hn3 hp hy0 hy1 hi hk hz
    | some u hi hu0 hu hn hc=>exact keeps17_okU n0 n1 n2 n3 p y0 y1 _ _ u w g hn0 hn1 hn2 hn3 hp hy0 hy1 rfl rfl hz hi hu0 hu hc
end Go.Proofs.YtjeimihnoiephaaGreatDoor
