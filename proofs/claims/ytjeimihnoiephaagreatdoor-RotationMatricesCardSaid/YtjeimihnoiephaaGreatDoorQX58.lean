/- Part 58 of the proof: M10w. -/
import Derived.Test.YtjeimihnoiephaaGreatDoorQX1
import Derived.Test.YtjeimihnoiephaaGreatDoorQX2
import Derived.Test.YtjeimihnoiephaaGreatDoorQX3
import Derived.Test.YtjeimihnoiephaaGreatDoorQX4
import Derived.Test.YtjeimihnoiephaaGreatDoorQX5
import Derived.Test.YtjeimihnoiephaaGreatDoorQX6
import Derived.Test.YtjeimihnoiephaaGreatDoorQX7
import Derived.Test.YtjeimihnoiephaaGreatDoorQX8
import Derived.Test.YtjeimihnoiephaaGreatDoorQX9
import Derived.Test.YtjeimihnoiephaaGreatDoorQX10
import Derived.Test.YtjeimihnoiephaaGreatDoorQX11
import Derived.Test.YtjeimihnoiephaaGreatDoorQX12
import Derived.Test.YtjeimihnoiephaaGreatDoorQX13
import Derived.Test.YtjeimihnoiephaaGreatDoorQX14
import Derived.Test.YtjeimihnoiephaaGreatDoorQX15
import Derived.Test.YtjeimihnoiephaaGreatDoorQX16
import Derived.Test.YtjeimihnoiephaaGreatDoorQX17
import Derived.Test.YtjeimihnoiephaaGreatDoorQX18
import Derived.Test.YtjeimihnoiephaaGreatDoorQX19
import Derived.Test.YtjeimihnoiephaaGreatDoorQX20
import Derived.Test.YtjeimihnoiephaaGreatDoorQX21
import Derived.Test.YtjeimihnoiephaaGreatDoorQX22
import Derived.Test.YtjeimihnoiephaaGreatDoorQX23
import Derived.Test.YtjeimihnoiephaaGreatDoorQX24
import Derived.Test.YtjeimihnoiephaaGreatDoorQX25
import Derived.Test.YtjeimihnoiephaaGreatDoorQX26
import Derived.Test.YtjeimihnoiephaaGreatDoorQX27
import Derived.Test.YtjeimihnoiephaaGreatDoorQX28
import Derived.Test.YtjeimihnoiephaaGreatDoorQX34
import Derived.Test.YtjeimihnoiephaaGreatDoorQX35
import Derived.Test.YtjeimihnoiephaaGreatDoorQX37
import Derived.Test.YtjeimihnoiephaaGreatDoorQX38
import Derived.Test.YtjeimihnoiephaaGreatDoorQX41
import Derived.Test.YtjeimihnoiephaaGreatDoorQX51
import Derived.Test.YtjeimihnoiephaaGreatDoorQX55
import Derived.Test.YtjeimihnoiephaaGreatDoorQX56
import Derived.Test.YtjeimihnoiephaaGreatDoorQX57
namespace Go.Proofs.YtjeimihnoiephaaGreatDoor
open Go Go.RowKit
set_option linter.unusedVariables false
theorem eq33s (a b c:ByteArray) (W:World):(Op.equalIn 9999 31 (.agg #[.string a,.string b,.string c]) (.agg #[.string a,.string b,.string c])).run Tryz.prog W = .ok true W:=by
  have h:=Tryz.underlying31
  go_simp
theorem eq33 (s0 s1 s2 s3 s4 s5 s6 s7 s8:ByteArray) (W:World):(Op.equalIn 10000 59 (.agg #[.string s0,.string s1,.string s2,.string s3,.string s4,.string s5,.string s6,.string s7,.string s8]) (.agg #[.string s0,.string s1,.string s2,.string s3,.string s4,.string s5,.string s6,.string s7,.string s8])).run Tryz.prog W = .ok true W:=by
  have hi0:(Tryz.prog.info? 31).isSome = true:=by kernel_rfl
  obtain ⟨i,hi⟩:=Option.isSome_iff_exists.1 hi0
  have hu:Tryz.prog.underlying 59 = some (.array 3 31):=by kernel_rfl
  refine Eq.trans (run_equalIn_array W 9999 _ _ hu hi) ?_
  have hc:Tryz.prog.cellsOf 31 = 3:=by kernel_rfl
  have hr:List.range 3 = [0,1,2]:=rfl
  have p0:∀ s0 s1 s2 s3 s4 s5 s6 s7 s8:ByteArray,(part 31 #[.string s0,.string s1,.string s2,.string s3,.string s4,.string s5,.string s6,.string s7,.string s8] (0 * 3)).run Tryz.prog W = .ok (.agg #[.string s0,.string s1,.string s2]) W:=fun _ _ _ _ _ _ _ _ _ => by kernel_rfl
  have p1:∀ s0 s1 s2 s3 s4 s5 s6 s7 s8:ByteArray,(part 31 #[.string s0,.string s1,.string s2,.string s3,.string s4,.string s5,.string s6,.string s7,.string s8] (1 * 3)).run Tryz.prog W = .ok (.agg #[.string s3,.string s4,.string s5]) W:=fun _ _ _ _ _ _ _ _ _ => by kernel_rfl
  have p2:∀ s0 s1 s2 s3 s4 s5 s6 s7 s8:ByteArray,(part 31 #[.string s0,.string s1,.string s2,.string s3,.string s4,.string s5,.string s6,.string s7,.string s8] (2 * 3)).run Tryz.prog W = .ok (.agg #[.string s6,.string s7,.string s8]) W:=fun _ _ _ _ _ _ _ _ _ => by kernel_rfl
  rw [hc,hr]
  simp only [Op.eqItems,Sem.run_bind,p0,p1,p2,eq33s,Result.andThen_ok,Bool.not_true,Bool.false_eq_true,if_false]
  rfl

set_option maxRecDepth 100000 in
set_option maxHeartbeats 32000000 in
theorem mats17_ok (n0 n1 n2 n3:Int) (p q:Pla) (w:World) (g:Gd w) (hn0:-128 ≤ n0∧n0 ≤ 127) (hn1:-128 ≤ n1∧n1 ≤ 127) (hn2:-128 ≤ n2∧n2 ≤ 127) (hn3:-128 ≤ n3∧n3 ≤ 127) (hp:PlaOk p) (hq:PlaOk q) (hz:¬ ((iv (prim4 (mk4 n0 n1 n2 n3)).x (prim4 (mk4 n0 n1 n2 n3)).y (prim4 (mk4 n0 n1 n2 n3)).z).x = 0∧(iv (prim4 (mk4 n0 n1 n2 n3)).x (prim4 (mk4 n0 n1 n2 n3)).y (prim4 (mk4 n0 n1 n2 n3)).z).y = 0∧(iv (prim4 (mk4 n0 n1 n2 n3)).x (prim4 (mk4 n0 n1 n2 n3)).y (prim4 (mk4 n0 n1 n2 n3)).z).z = 0)):Calls Tryz.prog 7 #[.agg #[.int .i8 n0,.int .i8 n1,.int .i8 n2,.int .i8 n3],.agg #[.int .i16 p.n0,.int .u8 (p.d0:Int),.int .i16 p.n1,.int .u8 (p.d1:Int),.int .i16 p.n2,.int .u8 (p.d2:Int),.int .i16 q.n0,.int .u8 (q.d0:Int),.int .i16 q.n1,.int .u8 (q.d1:Int),.int .i16 q.n2,.int .u8 (q.d2:Int)]] w (Ret w (.bool true)):=by
  have Hp:=Lib.hid hp
  have Hq:=Lib.hid hq
  have HG:=Lib.hid g
  clear hp hq g
  have HtB:Hid ((-128 ≤ n0∧n0 ≤ 127)∧(-128 ≤ n1∧n1 ≤ 127)∧(-128 ≤ n2∧n2 ≤ 127)∧(-128 ≤ n3∧n3 ≤ 127)):=Lib.hid ⟨hn0,hn1,hn2,hn3⟩
  clear hn0 hn1 hn2 hn3
  obtain ⟨t,et⟩:∃ t,mk4 n0 n1 n2 n3 = t:=⟨_,rfl⟩
  have HtE:=Lib.hid et;have HtS:Hid (Q4S t):=Lib.hid (et ▸ mk4_s n0 n1 n2 n3);have HtZ:Hid (¬ t.zero):=Lib.hid (et ▸ mk4_nz n0 n1 n2 n3);clear et
  have HtI:Hid (Q4In t):=Lib.hid HtS.out.inn;have HtQ:Hid (QErr t 0):=Lib.hid (.ok HtI.out HtZ.out)
  obtain ⟨v,ev⟩:∃ v,pvec p = v:=⟨_,rfl⟩
  have HvE:=Lib.hid ev;have Hv:Hid (VB 5 v):=Lib.hid (ev ▸ Hp.out.v);clear ev
  obtain ⟨c,ec⟩:∃ c,pvec q = c:=⟨_,rfl⟩
  have HcE:=Lib.hid ec;have Hc:Hid (VB 5 c):=Lib.hid (ec ▸ Hq.out.v);clear ec
  obtain ⟨p9,ep⟩:∃ p9,prim4 t = p9:=⟨_,rfl⟩
  have HPE:=Lib.hid ep;have HPS:Hid (Q4S p9):=Lib.hid (ep ▸ prim4_s HtS.out);clear ep
  obtain ⟨A,eA⟩:∃ A,iv p9.x p9.y p9.z = A:=⟨_,rfl⟩
  have HAE:=Lib.hid eA;have HPN:Hid (p9.x.natAbs < 100000∧p9.y.natAbs < 100000∧p9.z.natAbs < 100000):=Lib.hid ⟨by have:=HPS.out.x;omega,by have:=HPS.out.y;omega,by have:=HPS.out.z;omega⟩
  have HAV:Hid (VB 5 A):=Lib.hid (eA ▸ iv_vb HPN.out.1 HPN.out.2.1 HPN.out.2.2)
  obtain ⟨r1,er1⟩:∃ x,row1 t = x:=⟨_,rfl⟩
  have Hr1E:=Lib.hid er1;clear er1
  obtain ⟨r2,er2⟩:∃ x,row2 t = x:=⟨_,rfl⟩
  have Hr2E:=Lib.hid er2;clear er2
  obtain ⟨r3,er3⟩:∃ x,row3 t = x:=⟨_,rfl⟩
  have Hr3E:=Lib.hid er3;clear er3
  obtain ⟨Rv,eRv⟩:∃ x,rot t v = x:=⟨_,rfl⟩
  have HRvE:=Lib.hid eRv;clear eRv
  obtain ⟨Rc,eRc⟩:∃ x,rot t c = x:=⟨_,rfl⟩
  have HRcE:=Lib.hid eRc;clear eRc
  obtain ⟨S,eS⟩:∃ x,sub3 c Rc = x:=⟨_,rfl⟩
  have HSE:=Lib.hid eS;clear eS
  have HRv:Hid (VB 58 Rv):=Lib.hid (HRvE.out ▸ rot_qb HtI.out HtZ.out Hv.out);have HRc:Hid (VB 58 Rc):=Lib.hid (HRcE.out ▸ rot_qb HtI.out HtZ.out Hc.out)
  have hi:=HtI.out
  have bw:=hi.w;have bx:=hi.x;have by_:=hi.y;have bz:=hi.z
  have pww:=mul_bd bw bw
  have pwx:=mul_bd bw bx
  have pwy:=mul_bd bw by_
  have pwz:=mul_bd bw bz
  have pxw:=mul_bd bx bw
  have pxx:=mul_bd bx bx
  have pxy:=mul_bd bx by_
  have pxz:=mul_bd bx bz
  have pyw:=mul_bd by_ bw
  have pyx:=mul_bd by_ bx
  have pyy:=mul_bd by_ by_
  have pyz:=mul_bd by_ bz
  have pzw:=mul_bd bz bw
  have pzx:=mul_bd bz bx
  have pzy:=mul_bd bz by_
  have pzz:=mul_bd bz bz
  have sw:=sqi_nonneg t.w;have sx:=sqi_nonneg t.x;have sy:=sqi_nonneg t.y;have sz:=sqi_nonneg t.z
  have bS:=HtS.out.w
  have q2w:-2000000000000 ≤ 2 * t.w * t.w∧2 * t.w * t.w ≤ 2000000000000:=by rw [Int.mul_assoc];omega
  clear hi
  have HNZ:Hid (¬ (A.x = 0∧A.y = 0∧A.z = 0)):=Lib.hid (by rw [← eA,← HPE.out,← HtE.out];exact hz)
  clear eA hz
  obtain ⟨B,eB⟩:∃ B,vprim A = B:=⟨_,rfl⟩
  have HBE:=Lib.hid eB;clear eB
  have eqc0:=eq33 (qs r1.x) (qs r1.y) (qs r1.z) (qs r2.x) (qs r2.y) (qs r2.z) (qs r3.x) (qs r3.y) (qs r3.z)
  go_enter Tryz.func7,Tryz.ntmps7
  go_wp2_with fail
  refine (known17_c _ (HG.out.ext (((Ext.refl w).alloc _).alloc _))).mono ?_;rintro e w1 ⟨rfl,e1⟩
  have HX1:Hid (Ext w w1):=Lib.hid ((((Ext.refl w).alloc _).alloc _).trans e1)
  have HB0_1:Hid (Blk w1 (w.heap.size) #[.int .i8 n0,.int .i8 n1,.int .i8 n2,.int .i8 n3] 49):=Lib.hid (Blk.ext ((Blk.new' (w:=_) (cs:=#[.int .i8 n0,.int .i8 n1,.int .i8 n2,.int .i8 n3]) (t:=49) (by first | rfl | (simp only [World.size_alloc];done) | (simp only [World.size_alloc];omega) | simp)).alloc _) e1)
  have HB1_1:Hid (Blk w1 (w.heap.size + 1) #[.int .i16 p.n0,.int .u8 (p.d0:Int),.int .i16 p.n1,.int .u8 (p.d1:Int),.int .i16 p.n2,.int .u8 (p.d2:Int),.int .i16 q.n0,.int .u8 (q.d0:Int),.int .i16 q.n1,.int .u8 (q.d1:Int),.int .i16 q.n2,.int .u8 (q.d2:Int)] 56):=Lib.hid (Blk.ext (Blk.new' (w:=_) (cs:=#[.int .i16 p.n0,.int .u8 (p.d0:Int),.int .i16 p.n1,.int .u8 (p.d1:Int),.int .i16 p.n2,.int .u8 (p.d2:Int),.int .i16 q.n0,.int .u8 (q.d0:Int),.int .i16 q.n1,.int .u8 (q.d1:Int),.int .i16 q.n2,.int .u8 (q.d2:Int)]) (t:=56) (by first | rfl | (simp only [World.size_alloc];done) | (simp only [World.size_alloc];omega) | simp)) e1)
  have HGEB0:Hid (w.heap.size ≤ w.heap.size):=Lib.hid (by first | omega | (simp only [];omega) | (simp;omega))
  have HGEB1:Hid (w.heap.size ≤ w.heap.size + 1):=Lib.hid (by first | omega | (simp only [];omega) | (simp;omega))
  clear e1
  go_wp2_with fail
  refine wp_name (fun W => Ext w W∧Blk W (w.heap.size) #[.int .i8 n0,.int .i8 n1,.int .i8 n2,.int .i8 n3] 49∧Blk W (w.heap.size + 1) #[.int .i16 p.n0,.int .u8 (p.d0:Int),.int .i16 p.n1,.int .u8 (p.d1:Int),.int .i16 p.n2,.int .u8 (p.d2:Int),.int .i16 q.n0,.int .u8 (q.d0:Int),.int .i16 q.n1,.int .u8 (q.d1:Int),.int .i16 q.n2,.int .u8 (q.d2:Int)] 56) ⟨HX1.out,HB0_1.out,HB1_1.out⟩ ?_
  rintro w2 ⟨e2,bB0_2,bB1_2⟩
  have HX2:=Lib.hid e2;have HB0_2:=Lib.hid bB0_2;have HB1_2:=Lib.hid bB1_2
  clear e2 bB0_2 bB1_2
  refine region_lin [.val (.agg #[.int .i8 n0,.int .i8 n1,.int .i8 n2,.int .i8 n3]),.val (.agg #[.int .i64 t.w,.int .i64 t.x,.int .i64 t.y,.int .i64 t.z]),.val (.pointer (some ⟨w.heap.size + 1,0,none⟩)),.val (.agg #[.int .i16 p.n0,.int .u8 (p.d0:Int),.int .i16 p.n1,.int .u8 (p.d1:Int),.int .i16 p.n2,.int .u8 (p.d2:Int)]),.val (.agg #[.string (qs v.x),.string (qs v.y),.string (qs v.z)]),.val (.pointer (some ⟨w.heap.size + 1,6,none⟩)),.val (.agg #[.int .i16 q.n0,.int .u8 (q.d0:Int),.int .i16 q.n1,.int .u8 (q.d1:Int),.int .i16 q.n2,.int .u8 (q.d2:Int)]),.val (.agg #[.string (qs c.x),.string (qs c.y),.string (qs c.z)]),.mem (fun b_ => .pointer (some ⟨b_,0,none⟩)) #[.int .i64 0,.int .i64 0,.int .i64 0,.int .i64 0] 22 (Option.some 11),.mem (fun b_ => .pointer (some ⟨b_,0,none⟩)) #[.string ⟨#[]⟩,.string ⟨#[]⟩,.string ⟨#[]⟩] 31 (Option.some 12),.mem (fun b_ => .pointer (some ⟨b_,0,none⟩)) #[.string ⟨#[]⟩,.string ⟨#[]⟩,.string ⟨#[]⟩] 31 (Option.some 13),.put 8 #[.int .i64 t.w,.int .i64 t.x,.int .i64 t.y,.int .i64 t.z],.put 9 #[.string (qs v.x),.string (qs v.y),.string (qs v.z)],.put 10 #[.string (qs c.x),.string (qs c.y),.string (qs c.z)]] (by kernel_rfl) (by kernel_rfl) (by kernel_rfl) ?_ (fun g2 w3 hx_ hm_ hne_ => ?_)
  · skip
    refine RnL.cons (fun g2 A_ W_ hs_ => ?_) ?_
    · have q2_:=(hs_.old 2 (by kernel_rfl):A_.tmps[2]?.getD undef = .pointer (some ⟨w.heap.size,0,none⟩))
      have cB0_0:=((HB0_2.out.drew.ext hs_.1)).cell 0 rfl
      have cB0_1:=((HB0_2.out.drew.ext hs_.1)).cell 1 rfl
      have cB0_2:=((HB0_2.out.drew.ext hs_.1)).cell 2 rfl
      have cB0_3:=((HB0_2.out.drew.ext hs_.1)).cell 3 rfl
      refine Rn.val fun K_ hK_ => ?_
      go_simp
      exact hK_.out _ (Ext.refl _)
    refine RnL.cons (fun g2 A_ W_ hs_ => ?_) ?_
    · have q25_:=hs_.val 0 rfl rfl rfl
      refine Rn.val fun K_ hK_ => ?_
      go_simp
      refine (mk4_c n0 n1 n2 n3 t _ (HG.out.ext (HX2.out.drew.trans hs_.1)) HtB.out.1 HtB.out.2.1 HtB.out.2.2.1 HtB.out.2.2.2 HtE.out).mono ?_;rintro e W9_ ⟨rfl,e9_⟩;exact hK_.out _ e9_
    refine RnL.cons (fun g2 A_ W_ hs_ => ?_) ?_
    · have q3_:=(hs_.old 3 (by kernel_rfl):A_.tmps[3]?.getD undef = .pointer (some ⟨w.heap.size + 1,0,none⟩))
      refine Rn.val fun K_ hK_ => ?_
      go_simp
      exact hK_.out _ (Ext.refl _)
    refine RnL.cons (fun g2 A_ W_ hs_ => ?_) ?_
    · have q27_:=hs_.val 2 rfl rfl rfl
      have cB1_0:=((HB1_2.out.drew.ext hs_.1)).cell 0 rfl
      have cB1_1:=((HB1_2.out.drew.ext hs_.1)).cell 1 rfl
      have cB1_2:=((HB1_2.out.drew.ext hs_.1)).cell 2 rfl
      have cB1_3:=((HB1_2.out.drew.ext hs_.1)).cell 3 rfl
      have cB1_4:=((HB1_2.out.drew.ext hs_.1)).cell 4 rfl
      have cB1_5:=((HB1_2.out.drew.ext hs_.1)).cell 5 rfl
      refine Rn.val fun K_ hK_ => ?_
      go_simp
      exact hK_.out _ (Ext.refl _)
    refine RnL.cons (fun g2 A_ W_ hs_ => ?_) ?_
    · have q28_:=hs_.val 3 rfl rfl rfl
      refine Rn.val fun K_ hK_ => ?_
      go_simp
      refine ((HvE.out ▸ make_c p _ (HG.out.ext (HX2.out.drew.trans hs_.1)) Hp.out)).mono ?_;rintro e W9_ ⟨rfl,e9_⟩;exact hK_.out _ e9_
    refine RnL.cons (fun g2 A_ W_ hs_ => ?_) ?_
    · have q3_:=(hs_.old 3 (by kernel_rfl):A_.tmps[3]?.getD undef = .pointer (some ⟨w.heap.size + 1,0,none⟩))
      refine Rn.val fun K_ hK_ => ?_
      go_simp
      exact hK_.out _ (Ext.refl _)
    refine RnL.cons (fun g2 A_ W_ hs_ => ?_) ?_
    · have q30_:=hs_.val 5 rfl rfl rfl
      have cB1_6:=((HB1_2.out.drew.ext hs_.1)).cell 6 rfl
      have cB1_7:=((HB1_2.out.drew.ext hs_.1)).cell 7 rfl
      have cB1_8:=((HB1_2.out.drew.ext hs_.1)).cell 8 rfl
      have cB1_9:=((HB1_2.out.drew.ext hs_.1)).cell 9 rfl
      have cB1_10:=((HB1_2.out.drew.ext hs_.1)).cell 10 rfl
      have cB1_11:=((HB1_2.out.drew.ext hs_.1)).cell 11 rfl
      refine Rn.val fun K_ hK_ => ?_
      go_simp
      exact hK_.out _ (Ext.refl _)
    refine RnL.cons (fun g2 A_ W_ hs_ => ?_) ?_
    · have q31_:=hs_.val 6 rfl rfl rfl
      refine Rn.val fun K_ hK_ => ?_
      go_simp
      refine ((HcE.out ▸ make_c q _ (HG.out.ext (HX2.out.drew.trans hs_.1)) Hq.out)).mono ?_;rintro e W9_ ⟨rfl,e9_⟩;exact hK_.out _ e9_
    refine RnL.cons (fun g2 A_ W_ hs_ => ?_) ?_
    · refine Rn.mem fun K_ hK_ => ?_
      go_simp
      exact hK_.out
    refine RnL.cons (fun g2 A_ W_ hs_ => ?_) ?_
    · refine Rn.mem fun K_ hK_ => ?_
      go_simp
      exact hK_.out
    refine RnL.cons (fun g2 A_ W_ hs_ => ?_) ?_
    · refine Rn.mem fun K_ hK_ => ?_
      go_simp
      exact hK_.out
    refine RnL.cons (fun g2 A_ W_ hs_ => ?_) ?_
    · have q5_:=(hs_.mem 8 rfl rfl rfl).1
      have q26_:=hs_.val 1 rfl rfl rfl
      refine Rn.put (z:=#[.int .i64 0,.int .i64 0,.int .i64 0,.int .i64 0]) (t:=22) rfl fun hB K_ hK_ => ?_
      have c_0:=hB.cell 0 rfl;have f_0:=hB.free 0
      have c_1:=hB.cell 1 rfl;have f_1:=hB.free 1
      have c_2:=hB.cell 2 rfl;have f_2:=hB.free 2
      have c_3:=hB.cell 3 rfl;have f_3:=hB.free 3
      have HB:=Lib.hid hB;clear hB
      go_simp
      exact hK_.out _ (((((Only.refl _ _).set 0 _).set 1 _).set 2 _).set 3 _) ((((HB.out.set 0 _).set 1 _).set 2 _).set 3 _)
    refine RnL.cons (fun g2 A_ W_ hs_ => ?_) ?_
    · have q6_:=(hs_.mem 9 rfl rfl rfl).1
      have q29_:=hs_.val 4 rfl rfl rfl
      refine Rn.put (z:=#[.string ⟨#[]⟩,.string ⟨#[]⟩,.string ⟨#[]⟩]) (t:=31) rfl fun hB K_ hK_ => ?_
      have c_0:=hB.cell 0 rfl;have f_0:=hB.free 0
      have c_1:=hB.cell 1 rfl;have f_1:=hB.free 1
      have c_2:=hB.cell 2 rfl;have f_2:=hB.free 2
      have HB:=Lib.hid hB;clear hB
      go_simp
      exact hK_.out _ ((((Only.refl _ _).set 0 _).set 1 _).set 2 _) (((HB.out.set 0 _).set 1 _).set 2 _)
    refine RnL.cons (fun g2 A_ W_ hs_ => ?_) ?_
    · have q7_:=(hs_.mem 10 rfl rfl rfl).1
      have q32_:=hs_.val 7 rfl rfl rfl
      refine Rn.put (z:=#[.string ⟨#[]⟩,.string ⟨#[]⟩,.string ⟨#[]⟩]) (t:=31) rfl fun hB K_ hK_ => ?_
      have c_0:=hB.cell 0 rfl;have f_0:=hB.free 0
      have c_1:=hB.cell 1 rfl;have f_1:=hB.free 1
      have c_2:=hB.cell 2 rfl;have f_2:=hB.free 2
      have HB:=Lib.hid hB;clear hB
      go_simp
      exact hK_.out _ ((((Only.refl _ _).set 0 _).set 1 _).set 2 _) (((HB.out.set 0 _).set 1 _).set 2 _)
    exact RnL.nil
  simp only [fs,Kd.value,puts,Act.put,List.setIfInBounds_toArray,List.set_cons_zero,List.set_cons_succ,Nat.reduceAdd]
  have HX3:Hid (Ext w w3):=Lib.hid (HX2.out.drew.trans hx_)
  have HB2_3:Hid (Blk w3 (g2 8) #[.int .i64 t.w,.int .i64 t.x,.int .i64 t.y,.int .i64 t.z] 22):=Lib.hid (hm_ 8 _ _ _ _ rfl).2;have HGEB2:Hid (w.heap.size ≤ g2 8):=Lib.hid (Nat.le_trans HX2.out.size (hm_ 8 _ _ _ _ rfl).1)
  have HB3_3:Hid (Blk w3 (g2 9) #[.string (qs v.x),.string (qs v.y),.string (qs v.z)] 31):=Lib.hid (hm_ 9 _ _ _ _ rfl).2;have HGEB3:Hid (w.heap.size ≤ g2 9):=Lib.hid (Nat.le_trans HX2.out.size (hm_ 9 _ _ _ _ rfl).1)
  have HB4_3:Hid (Blk w3 (g2 10) #[.string (qs c.x),.string (qs c.y),.string (qs c.z)] 31):=Lib.hid (hm_ 10 _ _ _ _ rfl).2;have HGEB4:Hid (w.heap.size ≤ g2 10):=Lib.hid (Nat.le_trans HX2.out.size (hm_ 10 _ _ _ _ rfl).1)
  have HNEB2B3:Hid (g2 8 ≠ g2 9):=Lib.hid (hne_ 8 9 (by decide) ⟨_,_,_,_,rfl⟩ ⟨_,_,_,_,rfl⟩)
  have HNEB2B4:Hid (g2 8 ≠ g2 10):=Lib.hid (hne_ 8 10 (by decide) ⟨_,_,_,_,rfl⟩ ⟨_,_,_,_,rfl⟩)
  have HNEB3B4:Hid (g2 9 ≠ g2 10):=Lib.hid (hne_ 9 10 (by decide) ⟨_,_,_,_,rfl⟩ ⟨_,_,_,_,rfl⟩)
  clear hx_ hm_ hne_
  generalize g2 8 = i2 at *
  generalize g2 9 = i3 at *
  generalize g2 10 = i4 at *
  clear g2
  have c2_0:=HB2_3.out.cell 0 rfl
  have c2_1:=HB2_3.out.cell 1 rfl
  have c2_2:=HB2_3.out.cell 2 rfl
  have c2_3:=HB2_3.out.cell 3 rfl
  go_wp2_with fail
  refine (lrows_as t r1 r2 r3 Hr1E.out Hr2E.out Hr3E.out _ (HG.out.ext HX3.out) HtI.out HtZ.out).mono ?_;rintro e w4 ⟨rfl,e4⟩
  have HX4:Hid (Ext w w4):=Lib.hid (HX3.out.trans e4)
  have HB2_4:=Lib.hid (Blk.ext HB2_3.out e4)
  have HB3_4:=Lib.hid (Blk.ext HB3_3.out e4)
  have HB4_4:=Lib.hid (Blk.ext HB4_3.out e4)
  clear e4 c2_0 c2_1 c2_2 c2_3
  go_upto_region 5 with fail
  refine wp_name (fun W => Ext w W∧Blk W (i2) #[.int .i64 t.w,.int .i64 t.x,.int .i64 t.y,.int .i64 t.z] 22∧Blk W (i3) #[.string (qs v.x),.string (qs v.y),.string (qs v.z)] 31∧Blk W (i4) #[.string (qs c.x),.string (qs c.y),.string (qs c.z)] 31∧Blk W (w4.heap.size) #[.string (qs r1.x),.string (qs r1.y),.string (qs r1.z),.string (qs r2.x),.string (qs r2.y),.string (qs r2.z),.string (qs r3.x),.string (qs r3.y),.string (qs r3.z)] 59) ⟨(HX4.out.alloc _),(HB2_4.out.alloc _),(HB3_4.out.alloc _),(HB4_4.out.alloc _),(Blk.new' (w:=_) (cs:=#[.string (qs r1.x),.string (qs r1.y),.string (qs r1.z),.string (qs r2.x),.string (qs r2.y),.string (qs r2.z),.string (qs r3.x),.string (qs r3.y),.string (qs r3.z)]) (t:=59) (by first | rfl | (simp only [World.size_alloc];done) | (simp only [World.size_alloc];omega) | simp))⟩ ?_
  rintro w5 ⟨e5,bB2_5,bB3_5,bB4_5,bB5_5⟩
  have HX5:=Lib.hid e5;have HB2_5:=Lib.hid bB2_5;have HB3_5:=Lib.hid bB3_5;have HB4_5:=Lib.hid bB4_5;have HB5_5:=Lib.hid bB5_5
  have HGEB5:Hid (w.heap.size ≤ w4.heap.size):=Lib.hid (by have:=HX4.out.size;first | omega | (simp only [];omega) | (simp;omega))
  clear e5 bB2_5 bB3_5 bB4_5 bB5_5
  have c2_0:=HB2_5.out.cell 0 rfl
  have c2_1:=HB2_5.out.cell 1 rfl
  have c2_2:=HB2_5.out.cell 2 rfl
  have c2_3:=HB2_5.out.cell 3 rfl
  go_wp2_with fail
  refine (rmat_c t r1 r2 r3 Hr1E.out Hr2E.out Hr3E.out _ (HG.out.ext HX5.out) HtQ.out HtI.out HtZ.out).mono ?_;rintro e w6 ⟨rfl,e6⟩
  have HX6:Hid (Ext w w6):=Lib.hid (HX5.out.trans e6)
  have HB2_6:=Lib.hid (Blk.ext HB2_5.out e6)
  have HB3_6:=Lib.hid (Blk.ext HB3_5.out e6)
  have HB4_6:=Lib.hid (Blk.ext HB4_5.out e6)
  have HB5_6:=Lib.hid (Blk.ext HB5_5.out e6)
  clear e6 c2_0 c2_1 c2_2 c2_3
  go_upto_region 6 with fail
  refine wp_name (fun W => Ext w W∧Blk W (i2) #[.int .i64 t.w,.int .i64 t.x,.int .i64 t.y,.int .i64 t.z] 22∧Blk W (i3) #[.string (qs v.x),.string (qs v.y),.string (qs v.z)] 31∧Blk W (i4) #[.string (qs c.x),.string (qs c.y),.string (qs c.z)] 31∧Blk W (w4.heap.size) #[.string (qs r1.x),.string (qs r1.y),.string (qs r1.z),.string (qs r2.x),.string (qs r2.y),.string (qs r2.z),.string (qs r3.x),.string (qs r3.y),.string (qs r3.z)] 59∧Blk W (w6.heap.size) #[.string (qs r1.x),.string (qs r1.y),.string (qs r1.z),.string (qs r2.x),.string (qs r2.y),.string (qs r2.z),.string (qs r3.x),.string (qs r3.y),.string (qs r3.z)] 59) ⟨(HX6.out.alloc _),(HB2_6.out.alloc _),(HB3_6.out.alloc _),(HB4_6.out.alloc _),(HB5_6.out.alloc _),(Blk.new' (w:=_) (cs:=#[.string (qs r1.x),.string (qs r1.y),.string (qs r1.z),.string (qs r2.x),.string (qs r2.y),.string (qs r2.z),.string (qs r3.x),.string (qs r3.y),.string (qs r3.z)]) (t:=59) (by first | rfl | (simp only [World.size_alloc];done) | (simp only [World.size_alloc];omega) | simp))⟩ ?_
  rintro w7 ⟨e7,bB2_7,bB3_7,bB4_7,bB5_7,bB6_7⟩
  have HX7:=Lib.hid e7;have HB2_7:=Lib.hid bB2_7;have HB3_7:=Lib.hid bB3_7;have HB4_7:=Lib.hid bB4_7;have HB5_7:=Lib.hid bB5_7;have HB6_7:=Lib.hid bB6_7
  have HGEB6:Hid (w.heap.size ≤ w6.heap.size):=Lib.hid (by have:=HX6.out.size;first | omega | (simp only [];omega) | (simp;omega))
  clear e7 bB2_7 bB3_7 bB4_7 bB5_7 bB6_7
  have c2_0:=HB2_7.out.cell 0 rfl
  have c2_1:=HB2_7.out.cell 1 rfl
  have c2_2:=HB2_7.out.cell 2 rfl
  have c2_3:=HB2_7.out.cell 3 rfl
  have c3_0:=HB3_7.out.cell 0 rfl
  have c3_1:=HB3_7.out.cell 1 rfl
  have c3_2:=HB3_7.out.cell 2 rfl
  go_wp2_with fail
  refine (rapply_as t v Rv HRvE.out _ (HG.out.ext HX7.out) HtI.out HtZ.out Hv.out (by decide)).mono ?_;rintro e w8 ⟨rfl,e8⟩
  have HX8:Hid (Ext w w8):=Lib.hid (HX7.out.trans e8)
  have HB2_8:=Lib.hid (Blk.ext HB2_7.out e8)
  have HB3_8:=Lib.hid (Blk.ext HB3_7.out e8)
  have HB4_8:=Lib.hid (Blk.ext HB4_7.out e8)
  have HB5_8:=Lib.hid (Blk.ext HB5_7.out e8)
  have HB6_8:=Lib.hid (Blk.ext HB6_7.out e8)
  clear e8 c2_0 c2_1 c2_2 c2_3 c3_0 c3_1 c3_2
  go_upto_region 7 with fail
  refine wp_name (fun W => Ext w W∧Blk W (i2) #[.int .i64 t.w,.int .i64 t.x,.int .i64 t.y,.int .i64 t.z] 22∧Blk W (i3) #[.string (qs v.x),.string (qs v.y),.string (qs v.z)] 31∧Blk W (i4) #[.string (qs c.x),.string (qs c.y),.string (qs c.z)] 31∧Blk W (w4.heap.size) #[.string (qs r1.x),.string (qs r1.y),.string (qs r1.z),.string (qs r2.x),.string (qs r2.y),.string (qs r2.z),.string (qs r3.x),.string (qs r3.y),.string (qs r3.z)] 59∧Blk W (w6.heap.size) #[.string (qs r1.x),.string (qs r1.y),.string (qs r1.z),.string (qs r2.x),.string (qs r2.y),.string (qs r2.z),.string (qs r3.x),.string (qs r3.y),.string (qs r3.z)] 59∧Blk W (w8.heap.size) #[.string (qs Rv.x),.string (qs Rv.y),.string (qs Rv.z)] 31) ⟨(HX8.out.alloc _),(HB2_8.out.alloc _),(HB3_8.out.alloc _),(HB4_8.out.alloc _),(HB5_8.out.alloc _),(HB6_8.out.alloc _),(Blk.new' (w:=_) (cs:=#[.string (qs Rv.x),.string (qs Rv.y),.string (qs Rv.z)]) (t:=31) (by first | rfl | (simp only [World.size_alloc];done) | (simp only [World.size_alloc];omega) | simp))⟩ ?_
  rintro w9 ⟨e9,bB2_9,bB3_9,bB4_9,bB5_9,bB6_9,bB7_9⟩
  have HX9:=Lib.hid e9;have HB2_9:=Lib.hid bB2_9;have HB3_9:=Lib.hid bB3_9;have HB4_9:=Lib.hid bB4_9;have HB5_9:=Lib.hid bB5_9;have HB6_9:=Lib.hid bB6_9;have HB7_9:=Lib.hid bB7_9
  have HGEB7:Hid (w.heap.size ≤ w8.heap.size):=Lib.hid (by have:=HX8.out.size;first | omega | (simp only [];omega) | (simp;omega))
  clear e9 bB2_9 bB3_9 bB4_9 bB5_9 bB6_9 bB7_9
  have c2_0:=HB2_9.out.cell 0 rfl
  have c2_1:=HB2_9.out.cell 1 rfl
  have c2_2:=HB2_9.out.cell 2 rfl
  have c2_3:=HB2_9.out.cell 3 rfl
  have c4_0:=HB4_9.out.cell 0 rfl
  have c4_1:=HB4_9.out.cell 1 rfl
  have c4_2:=HB4_9.out.cell 2 rfl
  go_wp2_with fail
  refine (rabout_c t c Rc S r1 r2 r3 HRcE.out HSE.out Hr1E.out Hr2E.out Hr3E.out _ (HG.out.ext HX9.out) HtI.out HtZ.out Hc.out (by decide)).mono ?_;rintro e w10 ⟨rfl,e10⟩
  have HX10:Hid (Ext w w10):=Lib.hid (HX9.out.trans e10)
  have HB2_10:=Lib.hid (Blk.ext HB2_9.out e10)
  have HB3_10:=Lib.hid (Blk.ext HB3_9.out e10)
  have HB4_10:=Lib.hid (Blk.ext HB4_9.out e10)
  have HB5_10:=Lib.hid (Blk.ext HB5_9.out e10)
  have HB6_10:=Lib.hid (Blk.ext HB6_9.out e10)
  have HB7_10:=Lib.hid (Blk.ext HB7_9.out e10)
  clear e10 c2_0 c2_1 c2_2 c2_3 c4_0 c4_1 c4_2
  go_upto_region 8 with fail
  refine wp_name (fun W => Ext w W∧Blk W (i2) #[.int .i64 t.w,.int .i64 t.x,.int .i64 t.y,.int .i64 t.z] 22∧Blk W (i3) #[.string (qs v.x),.string (qs v.y),.string (qs v.z)] 31∧Blk W (i4) #[.string (qs c.x),.string (qs c.y),.string (qs c.z)] 31∧Blk W (w4.heap.size) #[.string (qs r1.x),.string (qs r1.y),.string (qs r1.z),.string (qs r2.x),.string (qs r2.y),.string (qs r2.z),.string (qs r3.x),.string (qs r3.y),.string (qs r3.z)] 59∧Blk W (w6.heap.size) #[.string (qs r1.x),.string (qs r1.y),.string (qs r1.z),.string (qs r2.x),.string (qs r2.y),.string (qs r2.z),.string (qs r3.x),.string (qs r3.y),.string (qs r3.z)] 59∧Blk W (w8.heap.size) #[.string (qs Rv.x),.string (qs Rv.y),.string (qs Rv.z)] 31∧Blk W (w10.heap.size) #[.string (qs r1.x),.string (qs r1.y),.string (qs r1.z),.string (qs r2.x),.string (qs r2.y),.string (qs r2.z),.string (qs r3.x),.string (qs r3.y),.string (qs r3.z),.string (qs S.x),.string (qs S.y),.string (qs S.z)] 66) ⟨(HX10.out.alloc _),(HB2_10.out.alloc _),(HB3_10.out.alloc _),(HB4_10.out.alloc _),(HB5_10.out.alloc _),(HB6_10.out.alloc _),(HB7_10.out.alloc _),(Blk.new' (w:=_) (cs:=#[.string (qs r1.x),.string (qs r1.y),.string (qs r1.z),.string (qs r2.x),.string (qs r2.y),.string (qs r2.z),.string (qs r3.x),.string (qs r3.y),.string (qs r3.z),.string (qs S.x),.string (qs S.y),.string (qs S.z)]) (t:=66) (by first | rfl | (simp only [World.size_alloc];done) | (simp only [World.size_alloc];omega) | simp))⟩ ?_
  rintro w11 ⟨e11,bB2_11,bB3_11,bB4_11,bB5_11,bB6_11,bB7_11,bB8_11⟩
  have HX11:=Lib.hid e11;have HB2_11:=Lib.hid bB2_11;have HB3_11:=Lib.hid bB3_11;have HB4_11:=Lib.hid bB4_11;have HB5_11:=Lib.hid bB5_11;have HB6_11:=Lib.hid bB6_11;have HB7_11:=Lib.hid bB7_11;have HB8_11:=Lib.hid bB8_11
  have HGEB8:Hid (w.heap.size ≤ w10.heap.size):=Lib.hid (by have:=HX10.out.size;first | omega | (simp only [];omega) | (simp;omega))
  clear e11 bB2_11 bB3_11 bB4_11 bB5_11 bB6_11 bB7_11 bB8_11
  have c2_0:=HB2_11.out.cell 0 rfl
  have c2_1:=HB2_11.out.cell 1 rfl
  have c2_2:=HB2_11.out.cell 2 rfl
  have c2_3:=HB2_11.out.cell 3 rfl
  go_wp2_with fail
  refine (raxis_ok t p9 A B _ (HG.out.ext HX11.out) HtQ.out HtI.out HtZ.out HPE.out HAE.out HPS.out HBE.out HNZ.out).mono ?_;rintro e w12 ⟨rfl,e12⟩
  have HX12:Hid (Ext w w12):=Lib.hid (HX11.out.trans e12)
  have HB2_12:=Lib.hid (Blk.ext HB2_11.out e12)
  have HB3_12:=Lib.hid (Blk.ext HB3_11.out e12)
  have HB4_12:=Lib.hid (Blk.ext HB4_11.out e12)
  have HB5_12:=Lib.hid (Blk.ext HB5_11.out e12)
  have HB6_12:=Lib.hid (Blk.ext HB6_11.out e12)
  have HB7_12:=Lib.hid (Blk.ext HB7_11.out e12)
  have HB8_12:=Lib.hid (Blk.ext HB8_11.out e12)
  clear e12 c2_0 c2_1 c2_2 c2_3
  go_upto_region 9 with fail
  refine wp_name (fun W => Ext w W∧Blk W (i2) #[.int .i64 t.w,.int .i64 t.x,.int .i64 t.y,.int .i64 t.z] 22∧Blk W (i3) #[.string (qs v.x),.string (qs v.y),.string (qs v.z)] 31∧Blk W (i4) #[.string (qs c.x),.string (qs c.y),.string (qs c.z)] 31∧Blk W (w4.heap.size) #[.string (qs r1.x),.string (qs r1.y),.string (qs r1.z),.string (qs r2.x),.string (qs r2.y),.string (qs r2.z),.string (qs r3.x),.string (qs r3.y),.string (qs r3.z)] 59∧Blk W (w6.heap.size) #[.string (qs r1.x),.string (qs r1.y),.string (qs r1.z),.string (qs r2.x),.string (qs r2.y),.string (qs r2.z),.string (qs r3.x),.string (qs r3.y),.string (qs r3.z)] 59∧Blk W (w8.heap.size) #[.string (qs Rv.x),.string (qs Rv.y),.string (qs Rv.z)] 31∧Blk W (w10.heap.size) #[.string (qs r1.x),.string (qs r1.y),.string (qs r1.z),.string (qs r2.x),.string (qs r2.y),.string (qs r2.z),.string (qs r3.x),.string (qs r3.y),.string (qs r3.z),.string (qs S.x),.string (qs S.y),.string (qs S.z)] 66∧Blk W (w12.heap.size) #[.string (qs B.x),.string (qs B.y),.string (qs B.z)] 31) ⟨(HX12.out.alloc _),(HB2_12.out.alloc _),(HB3_12.out.alloc _),(HB4_12.out.alloc _),(HB5_12.out.alloc _),(HB6_12.out.alloc _),(HB7_12.out.alloc _),(HB8_12.out.alloc _),(Blk.new' (w:=_) (cs:=#[.string (qs B.x),.string (qs B.y),.string (qs B.z)]) (t:=31) (by first | rfl | (simp only [World.size_alloc];done) | (simp only [World.size_alloc];omega) | simp))⟩ ?_
  rintro w13 ⟨e13,bB2_13,bB3_13,bB4_13,bB5_13,bB6_13,bB7_13,bB8_13,bB9_13⟩
  have HX13:=Lib.hid e13;have HB2_13:=Lib.hid bB2_13;have HB3_13:=Lib.hid bB3_13;have HB4_13:=Lib.hid bB4_13;have HB5_13:=Lib.hid bB5_13;have HB6_13:=Lib.hid bB6_13;have HB7_13:=Lib.hid bB7_13;have HB8_13:=Lib.hid bB8_13;have HB9_13:=Lib.hid bB9_13
  have HGEB9:Hid (w.heap.size ≤ w12.heap.size):=Lib.hid (by have:=HX12.out.size;first | omega | (simp only [];omega) | (simp;omega))
  clear e13 bB2_13 bB3_13 bB4_13 bB5_13 bB6_13 bB7_13 bB8_13 bB9_13
  have c2_0:=HB2_13.out.cell 0 rfl
  have c2_1:=HB2_13.out.cell 1 rfl
  have c2_2:=HB2_13.out.cell 2 rfl
  have c2_3:=HB2_13.out.cell 3 rfl
  go_wp2_with fail
  refine (rcos_c t _ (HG.out.ext HX13.out) HtQ.out HtI.out HtZ.out).mono ?_;rintro e w14 ⟨rfl,e14⟩
  have HX14:Hid (Ext w w14):=Lib.hid (HX13.out.trans e14)
  have HB2_14:=Lib.hid (Blk.ext HB2_13.out e14)
  have HB3_14:=Lib.hid (Blk.ext HB3_13.out e14)
  have HB4_14:=Lib.hid (Blk.ext HB4_13.out e14)
  have HB5_14:=Lib.hid (Blk.ext HB5_13.out e14)
  have HB6_14:=Lib.hid (Blk.ext HB6_13.out e14)
  have HB7_14:=Lib.hid (Blk.ext HB7_13.out e14)
  have HB8_14:=Lib.hid (Blk.ext HB8_13.out e14)
  have HB9_14:=Lib.hid (Blk.ext HB9_13.out e14)
  clear e14 c2_0 c2_1 c2_2 c2_3
  go_wp2_with fail
  refine wp_name (fun W => Ext w W∧Blk W (i2) #[.int .i64 t.w,.int .i64 t.x,.int .i64 t.y,.int .i64 t.z] 22∧Blk W (i3) #[.string (qs v.x),.string (qs v.y),.string (qs v.z)] 31∧Blk W (i4) #[.string (qs c.x),.string (qs c.y),.string (qs c.z)] 31∧Blk W (w4.heap.size) #[.string (qs r1.x),.string (qs r1.y),.string (qs r1.z),.string (qs r2.x),.string (qs r2.y),.string (qs r2.z),.string (qs r3.x),.string (qs r3.y),.string (qs r3.z)] 59∧Blk W (w6.heap.size) #[.string (qs r1.x),.string (qs r1.y),.string (qs r1.z),.string (qs r2.x),.string (qs r2.y),.string (qs r2.z),.string (qs r3.x),.string (qs r3.y),.string (qs r3.z)] 59∧Blk W (w8.heap.size) #[.string (qs Rv.x),.string (qs Rv.y),.string (qs Rv.z)] 31∧Blk W (w10.heap.size) #[.string (qs r1.x),.string (qs r1.y),.string (qs r1.z),.string (qs r2.x),.string (qs r2.y),.string (qs r2.z),.string (qs r3.x),.string (qs r3.y),.string (qs r3.z),.string (qs S.x),.string (qs S.y),.string (qs S.z)] 66∧Blk W (w12.heap.size) #[.string (qs B.x),.string (qs B.y),.string (qs B.z)] 31) ⟨HX14.out,HB2_14.out,HB3_14.out,HB4_14.out,HB5_14.out,HB6_14.out,HB7_14.out,HB8_14.out,HB9_14.out⟩ ?_
  rintro w15 ⟨e15,bB2_15,bB3_15,bB4_15,bB5_15,bB6_15,bB7_15,bB8_15,bB9_15⟩
  have HX15:=Lib.hid e15;have HB2_15:=Lib.hid bB2_15;have HB3_15:=Lib.hid bB3_15;have HB4_15:=Lib.hid bB4_15;have HB5_15:=Lib.hid bB5_15;have HB6_15:=Lib.hid bB6_15;have HB7_15:=Lib.hid bB7_15;have HB8_15:=Lib.hid bB8_15;have HB9_15:=Lib.hid bB9_15
  clear e15 bB2_15 bB3_15 bB4_15 bB5_15 bB6_15 bB7_15 bB8_15 bB9_15
  refine region_lin [.val (.int .i64 0),.val (.bool false),.val (.bool false),.val (.agg #[.string (qs r1.x),.string (qs r1.y),.string (qs r1.z),.string (qs r2.x),.string (qs r2.y),.string (qs r2.z),.string (qs r3.x),.string (qs r3.y),.string (qs r3.z)]),.val (.agg #[.string (qs r1.x),.string (qs r1.y),.string (qs r1.z),.string (qs r2.x),.string (qs r2.y),.string (qs r2.z),.string (qs r3.x),.string (qs r3.y),.string (qs r3.z)]),.val (.bool false),.val (.bool false),.val (.bool false),.val (.int .i64 0),.val (.bool false),.val (.bool false),.val (.bool false),.val (.agg #[.string (qs Rv.x),.string (qs Rv.y),.string (qs Rv.z)]),.val (.agg #[.string (qs r1.x),.string (qs r1.y),.string (qs r1.z),.string (qs r2.x),.string (qs r2.y),.string (qs r2.z),.string (qs r3.x),.string (qs r3.y),.string (qs r3.z)]),.val (.agg #[.string (qs v.x),.string (qs v.y),.string (qs v.z)]),.val (.agg #[.string (qs Rv.x),.string (qs Rv.y),.string (qs Rv.z)]),.val (.bool false),.val (.bool false),.val (.bool false),.val (.int .i64 0),.val (.bool false),.val (.bool false),.val (.bool false),.val (.pointer (some ⟨w10.heap.size,0,none⟩)),.val (.agg #[.string (qs r1.x),.string (qs r1.y),.string (qs r1.z),.string (qs r2.x),.string (qs r2.y),.string (qs r2.z),.string (qs r3.x),.string (qs r3.y),.string (qs r3.z)]),.val (.agg #[.string (qs r1.x),.string (qs r1.y),.string (qs r1.z),.string (qs r2.x),.string (qs r2.y),.string (qs r2.z),.string (qs r3.x),.string (qs r3.y),.string (qs r3.z)]),.val (.bool false),.val (.bool false),.val (.bool false),.val (.pointer (some ⟨w10.heap.size,9,none⟩)),.val (.agg #[.string (qs S.x),.string (qs S.y),.string (qs S.z)]),.val (.agg #[.string (qs c.x),.string (qs c.y),.string (qs c.z)]),.val (.agg #[.string (qs r1.x),.string (qs r1.y),.string (qs r1.z),.string (qs r2.x),.string (qs r2.y),.string (qs r2.z),.string (qs r3.x),.string (qs r3.y),.string (qs r3.z)]),.val (.agg #[.string (qs c.x),.string (qs c.y),.string (qs c.z)]),.val (.agg #[.string (qs Rc.x),.string (qs Rc.y),.string (qs Rc.z)]),.val (.agg #[.string (qs S.x),.string (qs S.y),.string (qs S.z)]),.val (.bool false),.val (.bool false)] (by kernel_rfl) (by kernel_rfl) (by kernel_rfl) ?_ (fun g15 w16 hx_ hm_ hne_ => ?_)
  · skip
    refine RnL.cons (fun g15 A_ W_ hs_ => ?_) ?_
    · have q10_:=(hs_.old 10 (by kernel_rfl):A_.tmps[10]?.getD undef = .int .i64 0)
      refine Rn.val fun K_ hK_ => ?_
      go_simp
      exact hK_.out _ (Ext.refl _)
    refine RnL.cons (fun g15 A_ W_ hs_ => ?_) ?_
    · have q62_:=hs_.val 0 rfl rfl rfl
      refine Rn.val fun K_ hK_ => ?_
      go_simp
      exact hK_.out _ (Ext.refl _)
    refine RnL.cons (fun g15 A_ W_ hs_ => ?_) ?_
    · have q63_:=hs_.val 1 rfl rfl rfl
      refine Rn.val fun K_ hK_ => ?_
      go_simp
      exact hK_.out _ (Ext.refl _)
    refine RnL.cons (fun g15 A_ W_ hs_ => ?_) ?_
    · have q9_:=(hs_.old 9 (by kernel_rfl):A_.tmps[9]?.getD undef = .pointer (some ⟨w6.heap.size,0,none⟩))
      have cB6_0:=((HB6_15.out.drew.ext hs_.1)).cell 0 rfl
      have cB6_1:=((HB6_15.out.drew.ext hs_.1)).cell 1 rfl
      have cB6_2:=((HB6_15.out.drew.ext hs_.1)).cell 2 rfl
      have cB6_3:=((HB6_15.out.drew.ext hs_.1)).cell 3 rfl
      have cB6_4:=((HB6_15.out.drew.ext hs_.1)).cell 4 rfl
      have cB6_5:=((HB6_15.out.drew.ext hs_.1)).cell 5 rfl
      have cB6_6:=((HB6_15.out.drew.ext hs_.1)).cell 6 rfl
      have cB6_7:=((HB6_15.out.drew.ext hs_.1)).cell 7 rfl
      have cB6_8:=((HB6_15.out.drew.ext hs_.1)).cell 8 rfl
      refine Rn.val fun K_ hK_ => ?_
      go_simp
      exact hK_.out _ (Ext.refl _)
    refine RnL.cons (fun g15 A_ W_ hs_ => ?_) ?_
    · have q8_:=(hs_.old 8 (by kernel_rfl):A_.tmps[8]?.getD undef = .pointer (some ⟨w4.heap.size,0,none⟩))
      have cB5_0:=((HB5_15.out.drew.ext hs_.1)).cell 0 rfl
      have cB5_1:=((HB5_15.out.drew.ext hs_.1)).cell 1 rfl
      have cB5_2:=((HB5_15.out.drew.ext hs_.1)).cell 2 rfl
      have cB5_3:=((HB5_15.out.drew.ext hs_.1)).cell 3 rfl
      have cB5_4:=((HB5_15.out.drew.ext hs_.1)).cell 4 rfl
      have cB5_5:=((HB5_15.out.drew.ext hs_.1)).cell 5 rfl
      have cB5_6:=((HB5_15.out.drew.ext hs_.1)).cell 6 rfl
      have cB5_7:=((HB5_15.out.drew.ext hs_.1)).cell 7 rfl
      have cB5_8:=((HB5_15.out.drew.ext hs_.1)).cell 8 rfl
      refine Rn.val fun K_ hK_ => ?_
      go_simp
      exact hK_.out _ (Ext.refl _)
    refine RnL.cons (fun g15 A_ W_ hs_ => ?_) ?_
    · have q65_:=hs_.val 3 rfl rfl rfl
      have q66_:=hs_.val 4 rfl rfl rfl
      refine Rn.val fun K_ hK_ => ?_
      go_simp
      exact hK_.out _ (Ext.refl _)
    refine RnL.cons (fun g15 A_ W_ hs_ => ?_) ?_
    · have q64_:=hs_.val 2 rfl rfl rfl
      have q67_:=hs_.val 5 rfl rfl rfl
      refine Rn.val fun K_ hK_ => ?_
      go_simp
      exact hK_.out _ (Ext.refl _)
    refine RnL.cons (fun g15 A_ W_ hs_ => ?_) ?_
    · have q68_:=hs_.val 6 rfl rfl rfl
      refine Rn.val fun K_ hK_ => ?_
      go_simp
      exact hK_.out _ (Ext.refl _)
    refine RnL.cons (fun g15 A_ W_ hs_ => ?_) ?_
    · have q12_:=(hs_.old 12 (by kernel_rfl):A_.tmps[12]?.getD undef = .int .i64 0)
      refine Rn.val fun K_ hK_ => ?_
      go_simp
      exact hK_.out _ (Ext.refl _)
    refine RnL.cons (fun g15 A_ W_ hs_ => ?_) ?_
    · have q70_:=hs_.val 8 rfl rfl rfl
      refine Rn.val fun K_ hK_ => ?_
      go_simp
      exact hK_.out _ (Ext.refl _)
    refine RnL.cons (fun g15 A_ W_ hs_ => ?_) ?_
    · have q69_:=hs_.val 7 rfl rfl rfl
      have q71_:=hs_.val 9 rfl rfl rfl
      refine Rn.val fun K_ hK_ => ?_
      go_simp
      exact hK_.out _ (Ext.refl _)
    refine RnL.cons (fun g15 A_ W_ hs_ => ?_) ?_
    · have q72_:=hs_.val 10 rfl rfl rfl
      refine Rn.val fun K_ hK_ => ?_
      go_simp
      exact hK_.out _ (Ext.refl _)
    refine RnL.cons (fun g15 A_ W_ hs_ => ?_) ?_
    · have q11_:=(hs_.old 11 (by kernel_rfl):A_.tmps[11]?.getD undef = .pointer (some ⟨w8.heap.size,0,none⟩))
      have cB7_0:=((HB7_15.out.drew.ext hs_.1)).cell 0 rfl
      have cB7_1:=((HB7_15.out.drew.ext hs_.1)).cell 1 rfl
      have cB7_2:=((HB7_15.out.drew.ext hs_.1)).cell 2 rfl
      refine Rn.val fun K_ hK_ => ?_
      go_simp
      exact hK_.out _ (Ext.refl _)
    refine RnL.cons (fun g15 A_ W_ hs_ => ?_) ?_
    · have q8_:=(hs_.old 8 (by kernel_rfl):A_.tmps[8]?.getD undef = .pointer (some ⟨w4.heap.size,0,none⟩))
      have cB5_0:=((HB5_15.out.drew.ext hs_.1)).cell 0 rfl
      have cB5_1:=((HB5_15.out.drew.ext hs_.1)).cell 1 rfl
      have cB5_2:=((HB5_15.out.drew.ext hs_.1)).cell 2 rfl
      have cB5_3:=((HB5_15.out.drew.ext hs_.1)).cell 3 rfl
      have cB5_4:=((HB5_15.out.drew.ext hs_.1)).cell 4 rfl
      have cB5_5:=((HB5_15.out.drew.ext hs_.1)).cell 5 rfl
      have cB5_6:=((HB5_15.out.drew.ext hs_.1)).cell 6 rfl
      have cB5_7:=((HB5_15.out.drew.ext hs_.1)).cell 7 rfl
      have cB5_8:=((HB5_15.out.drew.ext hs_.1)).cell 8 rfl
      refine Rn.val fun K_ hK_ => ?_
      go_simp
      exact hK_.out _ (Ext.refl _)
    refine RnL.cons (fun g15 A_ W_ hs_ => ?_) ?_
    · have q6_:=(hs_.old 6 (by kernel_rfl):A_.tmps[6]?.getD undef = .pointer (some ⟨i3,0,none⟩))
      have cB3_0:=((HB3_15.out.drew.ext hs_.1)).cell 0 rfl
      have cB3_1:=((HB3_15.out.drew.ext hs_.1)).cell 1 rfl
      have cB3_2:=((HB3_15.out.drew.ext hs_.1)).cell 2 rfl
      refine Rn.val fun K_ hK_ => ?_
      go_simp
      exact hK_.out _ (Ext.refl _)
    refine RnL.cons (fun g15 A_ W_ hs_ => ?_) ?_
    · have q75_:=hs_.val 13 rfl rfl rfl
      have q76_:=hs_.val 14 rfl rfl rfl
      refine Rn.val fun K_ hK_ => ?_
      go_simp
      refine (lapply_as t v Rv r1 r2 r3 HRvE.out Hr1E.out Hr2E.out Hr3E.out _ (HG.out.ext (HX15.out.drew.trans hs_.1)) HtI.out HtZ.out Hv.out (by decide)).mono ?_;rintro e W9_ ⟨rfl,e9_⟩;exact hK_.out _ e9_
    refine RnL.cons (fun g15 A_ W_ hs_ => ?_) ?_
    · have q74_:=hs_.val 12 rfl rfl rfl
      have q77_:=hs_.val 15 rfl rfl rfl
      refine Rn.val fun K_ hK_ => ?_
      go_simp
      exact hK_.out _ (Ext.refl _)
    refine RnL.cons (fun g15 A_ W_ hs_ => ?_) ?_
    · have q73_:=hs_.val 11 rfl rfl rfl
      have q78_:=hs_.val 16 rfl rfl rfl
      refine Rn.val fun K_ hK_ => ?_
      go_simp
      exact hK_.out _ (Ext.refl _)
    refine RnL.cons (fun g15 A_ W_ hs_ => ?_) ?_
    · have q79_:=hs_.val 17 rfl rfl rfl
      refine Rn.val fun K_ hK_ => ?_
      go_simp
      exact hK_.out _ (Ext.refl _)
    refine RnL.cons (fun g15 A_ W_ hs_ => ?_) ?_
    · have q14_:=(hs_.old 14 (by kernel_rfl):A_.tmps[14]?.getD undef = .int .i64 0)
      refine Rn.val fun K_ hK_ => ?_
      go_simp
      exact hK_.out _ (Ext.refl _)
    refine RnL.cons (fun g15 A_ W_ hs_ => ?_) ?_
    · have q81_:=hs_.val 19 rfl rfl rfl
      refine Rn.val fun K_ hK_ => ?_
      go_simp
      exact hK_.out _ (Ext.refl _)
    refine RnL.cons (fun g15 A_ W_ hs_ => ?_) ?_
    · have q80_:=hs_.val 18 rfl rfl rfl
      have q82_:=hs_.val 20 rfl rfl rfl
      refine Rn.val fun K_ hK_ => ?_
      go_simp
      exact hK_.out _ (Ext.refl _)
    refine RnL.cons (fun g15 A_ W_ hs_ => ?_) ?_
    · have q83_:=hs_.val 21 rfl rfl rfl
      refine Rn.val fun K_ hK_ => ?_
      go_simp
      exact hK_.out _ (Ext.refl _)
    refine RnL.cons (fun g15 A_ W_ hs_ => ?_) ?_
    · have q13_:=(hs_.old 13 (by kernel_rfl):A_.tmps[13]?.getD undef = .pointer (some ⟨w10.heap.size,0,none⟩))
      refine Rn.val fun K_ hK_ => ?_
      go_simp
      exact hK_.out _ (Ext.refl _)
    refine RnL.cons (fun g15 A_ W_ hs_ => ?_) ?_
    · have q85_:=hs_.val 23 rfl rfl rfl
      have cB8_0:=((HB8_15.out.drew.ext hs_.1)).cell 0 rfl
      have cB8_1:=((HB8_15.out.drew.ext hs_.1)).cell 1 rfl
      have cB8_2:=((HB8_15.out.drew.ext hs_.1)).cell 2 rfl
      have cB8_3:=((HB8_15.out.drew.ext hs_.1)).cell 3 rfl
      have cB8_4:=((HB8_15.out.drew.ext hs_.1)).cell 4 rfl
      have cB8_5:=((HB8_15.out.drew.ext hs_.1)).cell 5 rfl
      have cB8_6:=((HB8_15.out.drew.ext hs_.1)).cell 6 rfl
      have cB8_7:=((HB8_15.out.drew.ext hs_.1)).cell 7 rfl
      have cB8_8:=((HB8_15.out.drew.ext hs_.1)).cell 8 rfl
      refine Rn.val fun K_ hK_ => ?_
      go_simp
      exact hK_.out _ (Ext.refl _)
    refine RnL.cons (fun g15 A_ W_ hs_ => ?_) ?_
    · have q8_:=(hs_.old 8 (by kernel_rfl):A_.tmps[8]?.getD undef = .pointer (some ⟨w4.heap.size,0,none⟩))
      have cB5_0:=((HB5_15.out.drew.ext hs_.1)).cell 0 rfl
      have cB5_1:=((HB5_15.out.drew.ext hs_.1)).cell 1 rfl
      have cB5_2:=((HB5_15.out.drew.ext hs_.1)).cell 2 rfl
      have cB5_3:=((HB5_15.out.drew.ext hs_.1)).cell 3 rfl
      have cB5_4:=((HB5_15.out.drew.ext hs_.1)).cell 4 rfl
      have cB5_5:=((HB5_15.out.drew.ext hs_.1)).cell 5 rfl
      have cB5_6:=((HB5_15.out.drew.ext hs_.1)).cell 6 rfl
      have cB5_7:=((HB5_15.out.drew.ext hs_.1)).cell 7 rfl
      have cB5_8:=((HB5_15.out.drew.ext hs_.1)).cell 8 rfl
      refine Rn.val fun K_ hK_ => ?_
      go_simp
      exact hK_.out _ (Ext.refl _)
    refine RnL.cons (fun g15 A_ W_ hs_ => ?_) ?_
    · have q86_:=hs_.val 24 rfl rfl rfl
      have q87_:=hs_.val 25 rfl rfl rfl
      refine Rn.val fun K_ hK_ => ?_
      go_simp
      exact hK_.out _ (Ext.refl _)
    refine RnL.cons (fun g15 A_ W_ hs_ => ?_) ?_
    · have q84_:=hs_.val 22 rfl rfl rfl
      have q88_:=hs_.val 26 rfl rfl rfl
      refine Rn.val fun K_ hK_ => ?_
      go_simp
      exact hK_.out _ (Ext.refl _)
    refine RnL.cons (fun g15 A_ W_ hs_ => ?_) ?_
    · have q89_:=hs_.val 27 rfl rfl rfl
      refine Rn.val fun K_ hK_ => ?_
      go_simp
      exact hK_.out _ (Ext.refl _)
    refine RnL.cons (fun g15 A_ W_ hs_ => ?_) ?_
    · have q13_:=(hs_.old 13 (by kernel_rfl):A_.tmps[13]?.getD undef = .pointer (some ⟨w10.heap.size,0,none⟩))
      refine Rn.val fun K_ hK_ => ?_
      go_simp
      exact hK_.out _ (Ext.refl _)
    refine RnL.cons (fun g15 A_ W_ hs_ => ?_) ?_
    · have q91_:=hs_.val 29 rfl rfl rfl
      have cB8_9:=((HB8_15.out.drew.ext hs_.1)).cell 9 rfl
      have cB8_10:=((HB8_15.out.drew.ext hs_.1)).cell 10 rfl
      have cB8_11:=((HB8_15.out.drew.ext hs_.1)).cell 11 rfl
      refine Rn.val fun K_ hK_ => ?_
      go_simp
      exact hK_.out _ (Ext.refl _)
    refine RnL.cons (fun g15 A_ W_ hs_ => ?_) ?_
    · have q7_:=(hs_.old 7 (by kernel_rfl):A_.tmps[7]?.getD undef = .pointer (some ⟨i4,0,none⟩))
      have cB4_0:=((HB4_15.out.drew.ext hs_.1)).cell 0 rfl
      have cB4_1:=((HB4_15.out.drew.ext hs_.1)).cell 1 rfl
      have cB4_2:=((HB4_15.out.drew.ext hs_.1)).cell 2 rfl
      refine Rn.val fun K_ hK_ => ?_
      go_simp
      exact hK_.out _ (Ext.refl _)
    refine RnL.cons (fun g15 A_ W_ hs_ => ?_) ?_
    · have q8_:=(hs_.old 8 (by kernel_rfl):A_.tmps[8]?.getD undef = .pointer (some ⟨w4.heap.size,0,none⟩))
      have cB5_0:=((HB5_15.out.drew.ext hs_.1)).cell 0 rfl
      have cB5_1:=((HB5_15.out.drew.ext hs_.1)).cell 1 rfl
      have cB5_2:=((HB5_15.out.drew.ext hs_.1)).cell 2 rfl
      have cB5_3:=((HB5_15.out.drew.ext hs_.1)).cell 3 rfl
      have cB5_4:=((HB5_15.out.drew.ext hs_.1)).cell 4 rfl
      have cB5_5:=((HB5_15.out.drew.ext hs_.1)).cell 5 rfl
      have cB5_6:=((HB5_15.out.drew.ext hs_.1)).cell 6 rfl
      have cB5_7:=((HB5_15.out.drew.ext hs_.1)).cell 7 rfl
      have cB5_8:=((HB5_15.out.drew.ext hs_.1)).cell 8 rfl
      refine Rn.val fun K_ hK_ => ?_
      go_simp
      exact hK_.out _ (Ext.refl _)
    refine RnL.cons (fun g15 A_ W_ hs_ => ?_) ?_
    · have q7_:=(hs_.old 7 (by kernel_rfl):A_.tmps[7]?.getD undef = .pointer (some ⟨i4,0,none⟩))
      have cB4_0:=((HB4_15.out.drew.ext hs_.1)).cell 0 rfl
      have cB4_1:=((HB4_15.out.drew.ext hs_.1)).cell 1 rfl
      have cB4_2:=((HB4_15.out.drew.ext hs_.1)).cell 2 rfl
      refine Rn.val fun K_ hK_ => ?_
      go_simp
      exact hK_.out _ (Ext.refl _)
    refine RnL.cons (fun g15 A_ W_ hs_ => ?_) ?_
    · have q94_:=hs_.val 32 rfl rfl rfl
      have q95_:=hs_.val 33 rfl rfl rfl
      refine Rn.val fun K_ hK_ => ?_
      go_simp
      refine (lapply_as t c Rc r1 r2 r3 HRcE.out Hr1E.out Hr2E.out Hr3E.out _ (HG.out.ext (HX15.out.drew.trans hs_.1)) HtI.out HtZ.out Hc.out (by decide)).mono ?_;rintro e W9_ ⟨rfl,e9_⟩;exact hK_.out _ e9_
    refine RnL.cons (fun g15 A_ W_ hs_ => ?_) ?_
    · have q93_:=hs_.val 31 rfl rfl rfl
      have q96_:=hs_.val 34 rfl rfl rfl
      refine Rn.val fun K_ hK_ => ?_
      go_simp
      refine (ssub_as c Rc S HSE.out _ (HG.out.ext (HX15.out.drew.trans hs_.1)) Hc.out HRc.out (by decide) (by decide)).mono ?_;rintro e W9_ ⟨rfl,e9_⟩;exact hK_.out _ e9_
    refine RnL.cons (fun g15 A_ W_ hs_ => ?_) ?_
    · have q92_:=hs_.val 30 rfl rfl rfl
      have q97_:=hs_.val 35 rfl rfl rfl
      refine Rn.val fun K_ hK_ => ?_
      go_simp
      exact hK_.out _ (Ext.refl _)
    refine RnL.cons (fun g15 A_ W_ hs_ => ?_) ?_
    · have q90_:=hs_.val 28 rfl rfl rfl
      have q98_:=hs_.val 36 rfl rfl rfl
      refine Rn.val fun K_ hK_ => ?_
      go_simp
      exact hK_.out _ (Ext.refl _)
    exact RnL.nil
  simp only [fs,Kd.value,puts,Act.put,List.setIfInBounds_toArray,List.set_cons_zero,List.set_cons_succ]
  have HX16:Hid (Ext w w16):=Lib.hid (HX15.out.drew.trans hx_)
  have HB2_16:=Lib.hid (HB2_15.out.drew.ext hx_)
  have HB9_16:=Lib.hid (HB9_15.out.drew.ext hx_)
  clear hx_ hm_ hne_
  have c2_0:=HB2_16.out.cell 0 rfl
  have c2_1:=HB2_16.out.cell 1 rfl
  have c2_2:=HB2_16.out.cell 2 rfl
  have c2_3:=HB2_16.out.cell 3 rfl
  go_wp2_with fail
  refine (lcos_c t _ (HG.out.ext HX16.out) HtI.out HtZ.out).mono ?_;rintro e w17 ⟨rfl,e17⟩
  have HX17:Hid (Ext w w17):=Lib.hid (HX16.out.trans e17)
  have HB2_17:=Lib.hid (Blk.ext HB2_16.out e17)
  have HB9_17:=Lib.hid (Blk.ext HB9_16.out e17)
  clear e17 c2_0 c2_1 c2_2 c2_3
  have c2_0:=HB2_17.out.cell 0 rfl
  have c2_1:=HB2_17.out.cell 1 rfl
  have c2_2:=HB2_17.out.cell 2 rfl
  have c2_3:=HB2_17.out.cell 3 rfl
  go_wp2_with fail
  refine (lprim_as t p9 HPE.out _ (HG.out.ext HX17.out) HtI.out.bd HtZ.out).mono ?_;rintro e w18 ⟨rfl,e18⟩
  have HX18:Hid (Ext w w18):=Lib.hid (HX17.out.trans e18)
  have HB9_18:=Lib.hid (Blk.ext HB9_17.out e18)
  clear e18 c2_0 c2_1 c2_2 c2_3
  go_upto_region 16 with fail
  refine wp_name (fun W => Ext w W∧Blk W (w12.heap.size) #[.string (qs B.x),.string (qs B.y),.string (qs B.z)] 31∧Blk W (w18.heap.size) #[.int .i64 p9.w,.int .i64 p9.x,.int .i64 p9.y,.int .i64 p9.z] 22) ⟨(HX18.out.alloc _),(HB9_18.out.alloc _),(Blk.new' (w:=_) (cs:=#[.int .i64 p9.w,.int .i64 p9.x,.int .i64 p9.y,.int .i64 p9.z]) (t:=22) (by first | rfl | (simp only [World.size_alloc];done) | (simp only [World.size_alloc];omega) | simp))⟩ ?_
  rintro w19 ⟨e19,bB9_19,bB10_19⟩
  have HX19:=Lib.hid e19;have HB9_19:=Lib.hid bB9_19;have HB10_19:=Lib.hid bB10_19
  have HGEB10:Hid (w.heap.size ≤ w18.heap.size):=Lib.hid (by have:=HX18.out.size;first | omega | (simp only [];omega) | (simp;omega))
  clear e19 bB9_19 bB10_19
  have c10_1:=HB10_19.out.cell 1 rfl
  have c10_2:=HB10_19.out.cell 2 rfl
  have c10_3:=HB10_19.out.cell 3 rfl
  go_wp2_with fail
  refine (sof_as p9.x p9.y p9.z A HAE.out _ (HG.out.ext HX19.out) HPN.out.1 HPN.out.2.1 HPN.out.2.2).mono ?_;rintro e w20 ⟨rfl,e20⟩
  have HX20:Hid (Ext w w20):=Lib.hid (HX19.out.trans e20)
  have HB9_20:=Lib.hid (Blk.ext HB9_19.out e20)
  clear e20 c10_1 c10_2 c10_3
  go_wp2_with fail
  refine (vPrim_as A B HBE.out _ (HG.out.ext HX20.out) HAV.out HNZ.out).mono ?_;rintro e w21 ⟨rfl,e21⟩
  have HX21:Hid (Ext w w21):=Lib.hid (HX20.out.trans e21)
  have HB9_21:=Lib.hid (Blk.ext HB9_20.out e21)
  clear e21
  go_upto_region 19 with fail
  refine wp_name (fun W => Ext w W∧Blk W (w12.heap.size) #[.string (qs B.x),.string (qs B.y),.string (qs B.z)] 31∧Blk W (w21.heap.size) #[.string (qs B.x),.string (qs B.y),.string (qs B.z)] 31) ⟨(HX21.out.alloc _),(HB9_21.out.alloc _),(Blk.new' (w:=_) (cs:=#[.string (qs B.x),.string (qs B.y),.string (qs B.z)]) (t:=31) (by first | rfl | (simp only [World.size_alloc];done) | (simp only [World.size_alloc];omega) | simp))⟩ ?_
  rintro w22 ⟨e22,bB9_22,bB11_22⟩
  have HX22:=Lib.hid e22;have HB9_22:=Lib.hid bB9_22;have HB11_22:=Lib.hid bB11_22
  have HGEB11:Hid (w.heap.size ≤ w21.heap.size):=Lib.hid (by have:=HX21.out.size;first | omega | (simp only [];omega) | (simp;omega))
  clear e22 bB9_22 bB11_22
  have c9_0:=HB9_22.out.cell 0 rfl
  have c9_1:=HB9_22.out.cell 1 rfl
  have c9_2:=HB9_22.out.cell 2 rfl
  have c11_0:=HB11_22.out.cell 0 rfl
  have c11_1:=HB11_22.out.cell 1 rfl
  have c11_2:=HB11_22.out.cell 2 rfl
  go_wp2
  go_ret
  exact ⟨rfl,HX22.out⟩

set_option maxRecDepth 100000 in
set_option maxHeartbeats 32000000 in
theorem mats17_none (n0 n1 n2 n3:Int) (p q:Pla) (w:World) (g:Gd w) (hn0:-128 ≤ n0∧n0 ≤ 127) (hn1:-128 ≤ n1∧n1 ≤ 127) (hn2:-128 ≤ n2∧n2 ≤ 127) (hn3:-128 ≤ n3∧n3 ≤ 127) (hp:PlaOk p) (hq:PlaOk q) (hz:(iv (prim4 (mk4 n0 n1 n2 n3)).x (prim4 (mk4 n0 n1 n2 n3)).y (prim4 (mk4 n0 n1 n2 n3)).z).x = 0∧(iv (prim4 (mk4 n0 n1 n2 n3)).x (prim4 (mk4 n0 n1 n2 n3)).y (prim4 (mk4 n0 n1 n2 n3)).z).y = 0∧(iv (prim4 (mk4 n0 n1 n2 n3)).x (prim4 (mk4 n0 n1 n2 n3)).y (prim4 (mk4 n0 n1 n2 n3)).z).z = 0):Calls Tryz.prog 7 #[.agg #[.int .i8 n0,.int .i8 n1,.int .i8 n2,.int .i8 n3],.agg #[.int .i16 p.n0,.int .u8 (p.d0:Int),.int .i16 p.n1,.int .u8 (p.d1:Int),.int .i16 p.n2,.int .u8 (p.d2:Int),.int .i16 q.n0,.int .u8 (q.d0:Int),.int .i16 q.n1,.int .u8 (q.d1:Int),.int .i16 q.n2,.int .u8 (q.d2:Int)]] w (Ret w (.bool true)):=by
  have Hp:=Lib.hid hp
  have Hq:=Lib.hid hq
  have HG:=Lib.hid g
  clear hp hq g
  have HtB:Hid ((-128 ≤ n0∧n0 ≤ 127)∧(-128 ≤ n1∧n1 ≤ 127)∧(-128 ≤ n2∧n2 ≤ 127)∧(-128 ≤ n3∧n3 ≤ 127)):=Lib.hid ⟨hn0,hn1,hn2,hn3⟩
  clear hn0 hn1 hn2 hn3
  obtain ⟨t,et⟩:∃ t,mk4 n0 n1 n2 n3 = t:=⟨_,rfl⟩
  have HtE:=Lib.hid et;have HtS:Hid (Q4S t):=Lib.hid (et ▸ mk4_s n0 n1 n2 n3);have HtZ:Hid (¬ t.zero):=Lib.hid (et ▸ mk4_nz n0 n1 n2 n3);clear et
  have HtI:Hid (Q4In t):=Lib.hid HtS.out.inn;have HtQ:Hid (QErr t 0):=Lib.hid (.ok HtI.out HtZ.out)
  obtain ⟨v,ev⟩:∃ v,pvec p = v:=⟨_,rfl⟩
  have HvE:=Lib.hid ev;have Hv:Hid (VB 5 v):=Lib.hid (ev ▸ Hp.out.v);clear ev
  obtain ⟨c,ec⟩:∃ c,pvec q = c:=⟨_,rfl⟩
  have HcE:=Lib.hid ec;have Hc:Hid (VB 5 c):=Lib.hid (ec ▸ Hq.out.v);clear ec
  obtain ⟨p9,ep⟩:∃ p9,prim4 t = p9:=⟨_,rfl⟩
  have HPE:=Lib.hid ep;have HPS:Hid (Q4S p9):=Lib.hid (ep ▸ prim4_s HtS.out);clear ep
  obtain ⟨A,eA⟩:∃ A,iv p9.x p9.y p9.z = A:=⟨_,rfl⟩
  have HAE:=Lib.hid eA;have HPN:Hid (p9.x.natAbs < 100000∧p9.y.natAbs < 100000∧p9.z.natAbs < 100000):=Lib.hid ⟨by have:=HPS.out.x;omega,by have:=HPS.out.y;omega,by have:=HPS.out.z;omega⟩
  have HAV:Hid (VB 5 A):=Lib.hid (eA ▸ iv_vb HPN.out.1 HPN.out.2.1 HPN.out.2.2)
  obtain ⟨r1,er1⟩:∃ x,row1 t = x:=⟨_,rfl⟩
  have Hr1E:=Lib.hid er1;clear er1
  obtain ⟨r2,er2⟩:∃ x,row2 t = x:=⟨_,rfl⟩
  have Hr2E:=Lib.hid er2;clear er2
  obtain ⟨r3,er3⟩:∃ x,row3 t = x:=⟨_,rfl⟩
  have Hr3E:=Lib.hid er3;clear er3
  obtain ⟨Rv,eRv⟩:∃ x,rot t v = x:=⟨_,rfl⟩
  have HRvE:=Lib.hid eRv;clear eRv
  obtain ⟨Rc,eRc⟩:∃ x,rot t c = x:=⟨_,rfl⟩
  have HRcE:=Lib.hid eRc;clear eRc
  obtain ⟨S,eS⟩:∃ x,sub3 c Rc = x:=⟨_,rfl⟩
  have HSE:=Lib.hid eS;clear eS
  have HRv:Hid (VB 58 Rv):=Lib.hid (HRvE.out ▸ rot_qb HtI.out HtZ.out Hv.out);have HRc:Hid (VB 58 Rc):=Lib.hid (HRcE.out ▸ rot_qb HtI.out HtZ.out Hc.out)
  have hi:=HtI.out
  have bw:=hi.w;have bx:=hi.x;have by_:=hi.y;have bz:=hi.z
  have pww:=mul_bd bw bw
  have pwx:=mul_bd bw bx
  have pwy:=mul_bd bw by_
  have pwz:=mul_bd bw bz
  have pxw:=mul_bd bx bw
  have pxx:=mul_bd bx bx
  have pxy:=mul_bd bx by_
  have pxz:=mul_bd bx bz
  have pyw:=mul_bd by_ bw
  have pyx:=mul_bd by_ bx
  have pyy:=mul_bd by_ by_
  have pyz:=mul_bd by_ bz
  have pzw:=mul_bd bz bw
  have pzx:=mul_bd bz bx
  have pzy:=mul_bd bz by_
  have pzz:=mul_bd bz bz
  have sw:=sqi_nonneg t.w;have sx:=sqi_nonneg t.x;have sy:=sqi_nonneg t.y;have sz:=sqi_nonneg t.z
  have bS:=HtS.out.w
  have q2w:-2000000000000 ≤ 2 * t.w * t.w∧2 * t.w * t.w ≤ 2000000000000:=by rw [Int.mul_assoc];omega
  clear hi
  have HNZ:Hid (A.x = 0∧A.y = 0∧A.z = 0):=Lib.hid (by rw [← eA,← HPE.out,← HtE.out];exact hz)
  have HN0:Hid (p9.x = 0∧p9.y = 0∧p9.z = 0):=Lib.hid (iv_nz.1 (by have h:=HNZ.out;rw [← eA] at h;exact h))
  clear eA hz
  have eqc0:=eq33 (qs r1.x) (qs r1.y) (qs r1.z) (qs r2.x) (qs r2.y) (qs r2.z) (qs r3.x) (qs r3.y) (qs r3.z)
  go_enter Tryz.func7,Tryz.ntmps7
  go_wp2_with fail
  refine (known17_c _ (HG.out.ext (((Ext.refl w).alloc _).alloc _))).mono ?_;rintro e w1 ⟨rfl,e1⟩
  have HX1:Hid (Ext w w1):=Lib.hid ((((Ext.refl w).alloc _).alloc _).trans e1)
  have HB0_1:Hid (Blk w1 (w.heap.size) #[.int .i8 n0,.int .i8 n1,.int .i8 n2,.int .i8 n3] 49):=Lib.hid (Blk.ext ((Blk.new' (w:=_) (cs:=#[.int .i8 n0,.int .i8 n1,.int .i8 n2,.int .i8 n3]) (t:=49) (by first | rfl | (simp only [World.size_alloc];done) | (simp only [World.size_alloc];omega) | simp)).alloc _) e1)
  have HB1_1:Hid (Blk w1 (w.heap.size + 1) #[.int .i16 p.n0,.int .u8 (p.d0:Int),.int .i16 p.n1,.int .u8 (p.d1:Int),.int .i16 p.n2,.int .u8 (p.d2:Int),.int .i16 q.n0,.int .u8 (q.d0:Int),.int .i16 q.n1,.int .u8 (q.d1:Int),.int .i16 q.n2,.int .u8 (q.d2:Int)] 56):=Lib.hid (Blk.ext (Blk.new' (w:=_) (cs:=#[.int .i16 p.n0,.int .u8 (p.d0:Int),.int .i16 p.n1,.int .u8 (p.d1:Int),.int .i16 p.n2,.int .u8 (p.d2:Int),.int .i16 q.n0,.int .u8 (q.d0:Int),.int .i16 q.n1,.int .u8 (q.d1:Int),.int .i16 q.n2,.int .u8 (q.d2:Int)]) (t:=56) (by first | rfl | (simp only [World.size_alloc];done) | (simp only [World.size_alloc];omega) | simp)) e1)
  have HGEB0:Hid (w.heap.size ≤ w.heap.size):=Lib.hid (by first | omega | (simp only [];omega) | (simp;omega))
  have HGEB1:Hid (w.heap.size ≤ w.heap.size + 1):=Lib.hid (by first | omega | (simp only [];omega) | (simp;omega))
  clear e1
  go_wp2_with fail
  refine wp_name (fun W => Ext w W∧Blk W (w.heap.size) #[.int .i8 n0,.int .i8 n1,.int .i8 n2,.int .i8 n3] 49∧Blk W (w.heap.size + 1) #[.int .i16 p.n0,.int .u8 (p.d0:Int),.int .i16 p.n1,.int .u8 (p.d1:Int),.int .i16 p.n2,.int .u8 (p.d2:Int),.int .i16 q.n0,.int .u8 (q.d0:Int),.int .i16 q.n1,.int .u8 (q.d1:Int),.int .i16 q.n2,.int .u8 (q.d2:Int)] 56) ⟨HX1.out,HB0_1.out,HB1_1.out⟩ ?_
  rintro w2 ⟨e2,bB0_2,bB1_2⟩
  have HX2:=Lib.hid e2;have HB0_2:=Lib.hid bB0_2;have HB1_2:=Lib.hid bB1_2
  clear e2 bB0_2 bB1_2
  refine region_lin [.val (.agg #[.int .i8 n0,.int .i8 n1,.int .i8 n2,.int .i8 n3]),.val (.agg #[.int .i64 t.w,.int .i64 t.x,.int .i64 t.y,.int .i64 t.z]),.val (.pointer (some ⟨w.heap.size + 1,0,none⟩)),.val (.agg #[.int .i16 p.n0,.int .u8 (p.d0:Int),.int .i16 p.n1,.int .u8 (p.d1:Int),.int .i16 p.n2,.int .u8 (p.d2:Int)]),.val (.agg #[.string (qs v.x),.string (qs v.y),.string (qs v.z)]),.val (.pointer (some ⟨w.heap.size + 1,6,none⟩)),.val (.agg #[.int .i16 q.n0,.int .u8 (q.d0:Int),.int .i16 q.n1,.int .u8 (q.d1:Int),.int .i16 q.n2,.int .u8 (q.d2:Int)]),.val (.agg #[.string (qs c.x),.string (qs c.y),.string (qs c.z)]),.mem (fun b_ => .pointer (some ⟨b_,0,none⟩)) #[.int .i64 0,.int .i64 0,.int .i64 0,.int .i64 0] 22 (Option.some 11),.mem (fun b_ => .pointer (some ⟨b_,0,none⟩)) #[.string ⟨#[]⟩,.string ⟨#[]⟩,.string ⟨#[]⟩] 31 (Option.some 12),.mem (fun b_ => .pointer (some ⟨b_,0,none⟩)) #[.string ⟨#[]⟩,.string ⟨#[]⟩,.string ⟨#[]⟩] 31 (Option.some 13),.put 8 #[.int .i64 t.w,.int .i64 t.x,.int .i64 t.y,.int .i64 t.z],.put 9 #[.string (qs v.x),.string (qs v.y),.string (qs v.z)],.put 10 #[.string (qs c.x),.string (qs c.y),.string (qs c.z)]] (by kernel_rfl) (by kernel_rfl) (by kernel_rfl) ?_ (fun g2 w3 hx_ hm_ hne_ => ?_)
  · skip
    refine RnL.cons (fun g2 A_ W_ hs_ => ?_) ?_
    · have q2_:=(hs_.old 2 (by kernel_rfl):A_.tmps[2]?.getD undef = .pointer (some ⟨w.heap.size,0,none⟩))
      have cB0_0:=((HB0_2.out.drew.ext hs_.1)).cell 0 rfl
      have cB0_1:=((HB0_2.out.drew.ext hs_.1)).cell 1 rfl
      have cB0_2:=((HB0_2.out.drew.ext hs_.1)).cell 2 rfl
      have cB0_3:=((HB0_2.out.drew.ext hs_.1)).cell 3 rfl
      refine Rn.val fun K_ hK_ => ?_
      go_simp
      exact hK_.out _ (Ext.refl _)
    refine RnL.cons (fun g2 A_ W_ hs_ => ?_) ?_
    · have q25_:=hs_.val 0 rfl rfl rfl
      refine Rn.val fun K_ hK_ => ?_
      go_simp
      refine (mk4_c n0 n1 n2 n3 t _ (HG.out.ext (HX2.out.drew.trans hs_.1)) HtB.out.1 HtB.out.2.1 HtB.out.2.2.1 HtB.out.2.2.2 HtE.out).mono ?_;rintro e W9_ ⟨rfl,e9_⟩;exact hK_.out _ e9_
    refine RnL.cons (fun g2 A_ W_ hs_ => ?_) ?_
    · have q3_:=(hs_.old 3 (by kernel_rfl):A_.tmps[3]?.getD undef = .pointer (some ⟨w.heap.size + 1,0,none⟩))
      refine Rn.val fun K_ hK_ => ?_
      go_simp
      exact hK_.out _ (Ext.refl _)
    refine RnL.cons (fun g2 A_ W_ hs_ => ?_) ?_
    · have q27_:=hs_.val 2 rfl rfl rfl
      have cB1_0:=((HB1_2.out.drew.ext hs_.1)).cell 0 rfl
      have cB1_1:=((HB1_2.out.drew.ext hs_.1)).cell 1 rfl
      have cB1_2:=((HB1_2.out.drew.ext hs_.1)).cell 2 rfl
      have cB1_3:=((HB1_2.out.drew.ext hs_.1)).cell 3 rfl
      have cB1_4:=((HB1_2.out.drew.ext hs_.1)).cell 4 rfl
      have cB1_5:=((HB1_2.out.drew.ext hs_.1)).cell 5 rfl
      refine Rn.val fun K_ hK_ => ?_
      go_simp
      exact hK_.out _ (Ext.refl _)
    refine RnL.cons (fun g2 A_ W_ hs_ => ?_) ?_
    · have q28_:=hs_.val 3 rfl rfl rfl
      refine Rn.val fun K_ hK_ => ?_
      go_simp
      refine ((HvE.out ▸ make_c p _ (HG.out.ext (HX2.out.drew.trans hs_.1)) Hp.out)).mono ?_;rintro e W9_ ⟨rfl,e9_⟩;exact hK_.out _ e9_
    refine RnL.cons (fun g2 A_ W_ hs_ => ?_) ?_
    · have q3_:=(hs_.old 3 (by kernel_rfl):A_.tmps[3]?.getD undef = .pointer (some ⟨w.heap.size + 1,0,none⟩))
      refine Rn.val fun K_ hK_ => ?_
      go_simp
      exact hK_.out _ (Ext.refl _)
    refine RnL.cons (fun g2 A_ W_ hs_ => ?_) ?_
    · have q30_:=hs_.val 5 rfl rfl rfl
      have cB1_6:=((HB1_2.out.drew.ext hs_.1)).cell 6 rfl
      have cB1_7:=((HB1_2.out.drew.ext hs_.1)).cell 7 rfl
      have cB1_8:=((HB1_2.out.drew.ext hs_.1)).cell 8 rfl
      have cB1_9:=((HB1_2.out.drew.ext hs_.1)).cell 9 rfl
      have cB1_10:=((HB1_2.out.drew.ext hs_.1)).cell 10 rfl
      have cB1_11:=((HB1_2.out.drew.ext hs_.1)).cell 11 rfl
      refine Rn.val fun K_ hK_ => ?_
      go_simp
      exact hK_.out _ (Ext.refl _)
    refine RnL.cons (fun g2 A_ W_ hs_ => ?_) ?_
    · have q31_:=hs_.val 6 rfl rfl rfl
      refine Rn.val fun K_ hK_ => ?_
      go_simp
      refine ((HcE.out ▸ make_c q _ (HG.out.ext (HX2.out.drew.trans hs_.1)) Hq.out)).mono ?_;rintro e W9_ ⟨rfl,e9_⟩;exact hK_.out _ e9_
    refine RnL.cons (fun g2 A_ W_ hs_ => ?_) ?_
    · refine Rn.mem fun K_ hK_ => ?_
      go_simp
      exact hK_.out
    refine RnL.cons (fun g2 A_ W_ hs_ => ?_) ?_
    · refine Rn.mem fun K_ hK_ => ?_
      go_simp
      exact hK_.out
    refine RnL.cons (fun g2 A_ W_ hs_ => ?_) ?_
    · refine Rn.mem fun K_ hK_ => ?_
      go_simp
      exact hK_.out
    refine RnL.cons (fun g2 A_ W_ hs_ => ?_) ?_
    · have q5_:=(hs_.mem 8 rfl rfl rfl).1
      have q26_:=hs_.val 1 rfl rfl rfl
      refine Rn.put (z:=#[.int .i64 0,.int .i64 0,.int .i64 0,.int .i64 0]) (t:=22) rfl fun hB K_ hK_ => ?_
      have c_0:=hB.cell 0 rfl;have f_0:=hB.free 0
      have c_1:=hB.cell 1 rfl;have f_1:=hB.free 1
      have c_2:=hB.cell 2 rfl;have f_2:=hB.free 2
      have c_3:=hB.cell 3 rfl;have f_3:=hB.free 3
      have HB:=Lib.hid hB;clear hB
      go_simp
      exact hK_.out _ (((((Only.refl _ _).set 0 _).set 1 _).set 2 _).set 3 _) ((((HB.out.set 0 _).set 1 _).set 2 _).set 3 _)
    refine RnL.cons (fun g2 A_ W_ hs_ => ?_) ?_
    · have q6_:=(hs_.mem 9 rfl rfl rfl).1
      have q29_:=hs_.val 4 rfl rfl rfl
      refine Rn.put (z:=#[.string ⟨#[]⟩,.string ⟨#[]⟩,.string ⟨#[]⟩]) (t:=31) rfl fun hB K_ hK_ => ?_
      have c_0:=hB.cell 0 rfl;have f_0:=hB.free 0
      have c_1:=hB.cell 1 rfl;have f_1:=hB.free 1
      have c_2:=hB.cell 2 rfl;have f_2:=hB.free 2
      have HB:=Lib.hid hB;clear hB
      go_simp
      exact hK_.out _ ((((Only.refl _ _).set 0 _).set 1 _).set 2 _) (((HB.out.set 0 _).set 1 _).set 2 _)
    refine RnL.cons (fun g2 A_ W_ hs_ => ?_) ?_
    · have q7_:=(hs_.mem 10 rfl rfl rfl).1
      have q32_:=hs_.val 7 rfl rfl rfl
      refine Rn.put (z:=#[.string ⟨#[]⟩,.string ⟨#[]⟩,.string ⟨#[]⟩]) (t:=31) rfl fun hB K_ hK_ => ?_
      have c_0:=hB.cell 0 rfl;have f_0:=hB.free 0
      have c_1:=hB.cell 1 rfl;have f_1:=hB.free 1
      have c_2:=hB.cell 2 rfl;have f_2:=hB.free 2
      have HB:=Lib.hid hB;clear hB
      go_simp
      exact hK_.out _ ((((Only.refl _ _).set 0 _).set 1 _).set 2 _) (((HB.out.set 0 _).set 1 _).set 2 _)
    exact RnL.nil
  simp only [fs,Kd.value,puts,Act.put,List.setIfInBounds_toArray,List.set_cons_zero,List.set_cons_succ,Nat.reduceAdd]
  have HX3:Hid (Ext w w3):=Lib.hid (HX2.out.drew.trans hx_)
  have HB2_3:Hid (Blk w3 (g2 8) #[.int .i64 t.w,.int .i64 t.x,.int .i64 t.y,.int .i64 t.z] 22):=Lib.hid (hm_ 8 _ _ _ _ rfl).2;have HGEB2:Hid (w.heap.size ≤ g2 8):=Lib.hid (Nat.le_trans HX2.out.size (hm_ 8 _ _ _ _ rfl).1)
  have HB3_3:Hid (Blk w3 (g2 9) #[.string (qs v.x),.string (qs v.y),.string (qs v.z)] 31):=Lib.hid (hm_ 9 _ _ _ _ rfl).2;have HGEB3:Hid (w.heap.size ≤ g2 9):=Lib.hid (Nat.le_trans HX2.out.size (hm_ 9 _ _ _ _ rfl).1)
  have HB4_3:Hid (Blk w3 (g2 10) #[.string (qs c.x),.string (qs c.y),.string (qs c.z)] 31):=Lib.hid (hm_ 10 _ _ _ _ rfl).2;have HGEB4:Hid (w.heap.size ≤ g2 10):=Lib.hid (Nat.le_trans HX2.out.size (hm_ 10 _ _ _ _ rfl).1)
  have HNEB2B3:Hid (g2 8 ≠ g2 9):=Lib.hid (hne_ 8 9 (by decide) ⟨_,_,_,_,rfl⟩ ⟨_,_,_,_,rfl⟩)
  have HNEB2B4:Hid (g2 8 ≠ g2 10):=Lib.hid (hne_ 8 10 (by decide) ⟨_,_,_,_,rfl⟩ ⟨_,_,_,_,rfl⟩)
  have HNEB3B4:Hid (g2 9 ≠ g2 10):=Lib.hid (hne_ 9 10 (by decide) ⟨_,_,_,_,rfl⟩ ⟨_,_,_,_,rfl⟩)
  clear hx_ hm_ hne_
  generalize g2 8 = i2 at *
  generalize g2 9 = i3 at *
  generalize g2 10 = i4 at *
  clear g2
  have c2_0:=HB2_3.out.cell 0 rfl
  have c2_1:=HB2_3.out.cell 1 rfl
  have c2_2:=HB2_3.out.cell 2 rfl
  have c2_3:=HB2_3.out.cell 3 rfl
  go_wp2_with fail
  refine (lrows_as t r1 r2 r3 Hr1E.out Hr2E.out Hr3E.out _ (HG.out.ext HX3.out) HtI.out HtZ.out).mono ?_;rintro e w4 ⟨rfl,e4⟩
  have HX4:Hid (Ext w w4):=Lib.hid (HX3.out.trans e4)
  have HB2_4:=Lib.hid (Blk.ext HB2_3.out e4)
  have HB3_4:=Lib.hid (Blk.ext HB3_3.out e4)
  have HB4_4:=Lib.hid (Blk.ext HB4_3.out e4)
  clear e4 c2_0 c2_1 c2_2 c2_3
  go_upto_region 5 with fail
  refine wp_name (fun W => Ext w W∧Blk W (i2) #[.int .i64 t.w,.int .i64 t.x,.int .i64 t.y,.int .i64 t.z] 22∧Blk W (i3) #[.string (qs v.x),.string (qs v.y),.string (qs v.z)] 31∧Blk W (i4) #[.string (qs c.x),.string (qs c.y),.string (qs c.z)] 31∧Blk W (w4.heap.size) #[.string (qs r1.x),.string (qs r1.y),.string (qs r1.z),.string (qs r2.x),.string (qs r2.y),.string (qs r2.z),.string (qs r3.x),.string (qs r3.y),.string (qs r3.z)] 59) ⟨(HX4.out.alloc _),(HB2_4.out.alloc _),(HB3_4.out.alloc _),(HB4_4.out.alloc _),(Blk.new' (w:=_) (cs:=#[.string (qs r1.x),.string (qs r1.y),.string (qs r1.z),.string (qs r2.x),.string (qs r2.y),.string (qs r2.z),.string (qs r3.x),.string (qs r3.y),.string (qs r3.z)]) (t:=59) (by first | rfl | (simp only [World.size_alloc];done) | (simp only [World.size_alloc];omega) | simp))⟩ ?_
  rintro w5 ⟨e5,bB2_5,bB3_5,bB4_5,bB5_5⟩
  have HX5:=Lib.hid e5;have HB2_5:=Lib.hid bB2_5;have HB3_5:=Lib.hid bB3_5;have HB4_5:=Lib.hid bB4_5;have HB5_5:=Lib.hid bB5_5
  have HGEB5:Hid (w.heap.size ≤ w4.heap.size):=Lib.hid (by have:=HX4.out.size;first | omega | (simp only [];omega) | (simp;omega))
  clear e5 bB2_5 bB3_5 bB4_5 bB5_5
  have c2_0:=HB2_5.out.cell 0 rfl
  have c2_1:=HB2_5.out.cell 1 rfl
  have c2_2:=HB2_5.out.cell 2 rfl
  have c2_3:=HB2_5.out.cell 3 rfl
  go_wp2_with fail
  refine (rmat_c t r1 r2 r3 Hr1E.out Hr2E.out Hr3E.out _ (HG.out.ext HX5.out) HtQ.out HtI.out HtZ.out).mono ?_;rintro e w6 ⟨rfl,e6⟩
  have HX6:Hid (Ext w w6):=Lib.hid (HX5.out.trans e6)
  have HB2_6:=Lib.hid (Blk.ext HB2_5.out e6)
  have HB3_6:=Lib.hid (Blk.ext HB3_5.out e6)
  have HB4_6:=Lib.hid (Blk.ext HB4_5.out e6)
  have HB5_6:=Lib.hid (Blk.ext HB5_5.out e6)
  clear e6 c2_0 c2_1 c2_2 c2_3
  go_upto_region 6 with fail
  refine wp_name (fun W => Ext w W∧Blk W (i2) #[.int .i64 t.w,.int .i64 t.x,.int .i64 t.y,.int .i64 t.z] 22∧Blk W (i3) #[.string (qs v.x),.string (qs v.y),.string (qs v.z)] 31∧Blk W (i4) #[.string (qs c.x),.string (qs c.y),.string (qs c.z)] 31∧Blk W (w4.heap.size) #[.string (qs r1.x),.string (qs r1.y),.string (qs r1.z),.string (qs r2.x),.string (qs r2.y),.string (qs r2.z),.string (qs r3.x),.string (qs r3.y),.string (qs r3.z)] 59∧Blk W (w6.heap.size) #[.string (qs r1.x),.string (qs r1.y),.string (qs r1.z),.string (qs r2.x),.string (qs r2.y),.string (qs r2.z),.string (qs r3.x),.string (qs r3.y),.string (qs r3.z)] 59) ⟨(HX6.out.alloc _),(HB2_6.out.alloc _),(HB3_6.out.alloc _),(HB4_6.out.alloc _),(HB5_6.out.alloc _),(Blk.new' (w:=_) (cs:=#[.string (qs r1.x),.string (qs r1.y),.string (qs r1.z),.string (qs r2.x),.string (qs r2.y),.string (qs r2.z),.string (qs r3.x),.string (qs r3.y),.string (qs r3.z)]) (t:=59) (by first | rfl | (simp only [World.size_alloc];done) | (simp only [World.size_alloc];omega) | simp))⟩ ?_
  rintro w7 ⟨e7,bB2_7,bB3_7,bB4_7,bB5_7,bB6_7⟩
  have HX7:=Lib.hid e7;have HB2_7:=Lib.hid bB2_7;have HB3_7:=Lib.hid bB3_7;have HB4_7:=Lib.hid bB4_7;have HB5_7:=Lib.hid bB5_7;have HB6_7:=Lib.hid bB6_7
  have HGEB6:Hid (w.heap.size ≤ w6.heap.size):=Lib.hid (by have:=HX6.out.size;first | omega | (simp only [];omega) | (simp;omega))
  clear e7 bB2_7 bB3_7 bB4_7 bB5_7 bB6_7
  have c2_0:=HB2_7.out.cell 0 rfl
  have c2_1:=HB2_7.out.cell 1 rfl
  have c2_2:=HB2_7.out.cell 2 rfl
  have c2_3:=HB2_7.out.cell 3 rfl
  have c3_0:=HB3_7.out.cell 0 rfl
  have c3_1:=HB3_7.out.cell 1 rfl
  have c3_2:=HB3_7.out.cell 2 rfl
  go_wp2_with fail
  refine (rapply_as t v Rv HRvE.out _ (HG.out.ext HX7.out) HtI.out HtZ.out Hv.out (by decide)).mono ?_;rintro e w8 ⟨rfl,e8⟩
  have HX8:Hid (Ext w w8):=Lib.hid (HX7.out.trans e8)
  have HB2_8:=Lib.hid (Blk.ext HB2_7.out e8)
  have HB3_8:=Lib.hid (Blk.ext HB3_7.out e8)
  have HB4_8:=Lib.hid (Blk.ext HB4_7.out e8)
  have HB5_8:=Lib.hid (Blk.ext HB5_7.out e8)
  have HB6_8:=Lib.hid (Blk.ext HB6_7.out e8)
  clear e8 c2_0 c2_1 c2_2 c2_3 c3_0 c3_1 c3_2
  go_upto_region 7 with fail
  refine wp_name (fun W => Ext w W∧Blk W (i2) #[.int .i64 t.w,.int .i64 t.x,.int .i64 t.y,.int .i64 t.z] 22∧Blk W (i3) #[.string (qs v.x),.string (qs v.y),.string (qs v.z)] 31∧Blk W (i4) #[.string (qs c.x),.string (qs c.y),.string (qs c.z)] 31∧Blk W (w4.heap.size) #[.string (qs r1.x),.string (qs r1.y),.string (qs r1.z),.string (qs r2.x),.string (qs r2.y),.string (qs r2.z),.string (qs r3.x),.string (qs r3.y),.string (qs r3.z)] 59∧Blk W (w6.heap.size) #[.string (qs r1.x),.string (qs r1.y),.string (qs r1.z),.string (qs r2.x),.string (qs r2.y),.string (qs r2.z),.string (qs r3.x),.string (qs r3.y),.string (qs r3.z)] 59∧Blk W (w8.heap.size) #[.string (qs Rv.x),.string (qs Rv.y),.string (qs Rv.z)] 31) ⟨(HX8.out.alloc _),(HB2_8.out.alloc _),(HB3_8.out.alloc _),(HB4_8.out.alloc _),(HB5_8.out.alloc _),(HB6_8.out.alloc _),(Blk.new' (w:=_) (cs:=#[.string (qs Rv.x),.string (qs Rv.y),.string (qs Rv.z)]) (t:=31) (by first | rfl | (simp only [World.size_alloc];done) | (simp only [World.size_alloc];omega) | simp))⟩ ?_
  rintro w9 ⟨e9,bB2_9,bB3_9,bB4_9,bB5_9,bB6_9,bB7_9⟩
  have HX9:=Lib.hid e9;have HB2_9:=Lib.hid bB2_9;have HB3_9:=Lib.hid bB3_9;have HB4_9:=Lib.hid bB4_9;have HB5_9:=Lib.hid bB5_9;have HB6_9:=Lib.hid bB6_9;have HB7_9:=Lib.hid bB7_9
  have HGEB7:Hid (w.heap.size ≤ w8.heap.size):=Lib.hid (by have:=HX8.out.size;first | omega | (simp only [];omega) | (simp;omega))
  clear e9 bB2_9 bB3_9 bB4_9 bB5_9 bB6_9 bB7_9
  have c2_0:=HB2_9.out.cell 0 rfl
  have c2_1:=HB2_9.out.cell 1 rfl
  have c2_2:=HB2_9.out.cell 2 rfl
  have c2_3:=HB2_9.out.cell 3 rfl
  have c4_0:=HB4_9.out.cell 0 rfl
  have c4_1:=HB4_9.out.cell 1 rfl
  have c4_2:=HB4_9.out.cell 2 rfl
  go_wp2_with fail
  refine (rabout_c t c Rc S r1 r2 r3 HRcE.out HSE.out Hr1E.out Hr2E.out Hr3E.out _ (HG.out.ext HX9.out) HtI.out HtZ.out Hc.out (by decide)).mono ?_;rintro e w10 ⟨rfl,e10⟩
  have HX10:Hid (Ext w w10):=Lib.hid (HX9.out.trans e10)
  have HB2_10:=Lib.hid (Blk.ext HB2_9.out e10)
  have HB3_10:=Lib.hid (Blk.ext HB3_9.out e10)
  have HB4_10:=Lib.hid (Blk.ext HB4_9.out e10)
  have HB5_10:=Lib.hid (Blk.ext HB5_9.out e10)
  have HB6_10:=Lib.hid (Blk.ext HB6_9.out e10)
  have HB7_10:=Lib.hid (Blk.ext HB7_9.out e10)
  clear e10 c2_0 c2_1 c2_2 c2_3 c4_0 c4_1 c4_2
  go_upto_region 8 with fail
  refine wp_name (fun W => Ext w W∧Blk W (i2) #[.int .i64 t.w,.int .i64 t.x,.int .i64 t.y,.int .i64 t.z] 22∧Blk W (i3) #[.string (qs v.x),.string (qs v.y),.string (qs v.z)] 31∧Blk W (i4) #[.string (qs c.x),.string (qs c.y),.string (qs c.z)] 31∧Blk W (w4.heap.size) #[.string (qs r1.x),.string (qs r1.y),.string (qs r1.z),.string (qs r2.x),.string (qs r2.y),.string (qs r2.z),.string (qs r3.x),.string (qs r3.y),.string (qs r3.z)] 59∧Blk W (w6.heap.size) #[.string (qs r1.x),.string (qs r1.y),.string (qs r1.z),.string (qs r2.x),.string (qs r2.y),.string (qs r2.z),.string (qs r3.x),.string (qs r3.y),.string (qs r3.z)] 59∧Blk W (w8.heap.size) #[.string (qs Rv.x),.string (qs Rv.y),.string (qs Rv.z)] 31∧Blk W (w10.heap.size) #[.string (qs r1.x),.string (qs r1.y),.string (qs r1.z),.string (qs r2.x),.string (qs r2.y),.string (qs r2.z),.string (qs r3.x),.string (qs r3.y),.string (qs r3.z),.string (qs S.x),.string (qs S.y),.string (qs S.z)] 66) ⟨(HX10.out.alloc _),(HB2_10.out.alloc _),(HB3_10.out.alloc _),(HB4_10.out.alloc _),(HB5_10.out.alloc _),(HB6_10.out.alloc _),(HB7_10.out.alloc _),(Blk.new' (w:=_) (cs:=#[.string (qs r1.x),.string (qs r1.y),.string (qs r1.z),.string (qs r2.x),.string (qs r2.y),.string (qs r2.z),.string (qs r3.x),.string (qs r3.y),.string (qs r3.z),.string (qs S.x),.string (qs S.y),.string (qs S.z)]) (t:=66) (by first | rfl | (simp only [World.size_alloc];done) | (simp only [World.size_alloc];omega) | simp))⟩ ?_
  rintro w11 ⟨e11,bB2_11,bB3_11,bB4_11,bB5_11,bB6_11,bB7_11,bB8_11⟩
  have HX11:=Lib.hid e11;have HB2_11:=Lib.hid bB2_11;have HB3_11:=Lib.hid bB3_11;have HB4_11:=Lib.hid bB4_11;have HB5_11:=Lib.hid bB5_11;have HB6_11:=Lib.hid bB6_11;have HB7_11:=Lib.hid bB7_11;have HB8_11:=Lib.hid bB8_11
  have HGEB8:Hid (w.heap.size ≤ w10.heap.size):=Lib.hid (by have:=HX10.out.size;first | omega | (simp only [];omega) | (simp;omega))
  clear e11 bB2_11 bB3_11 bB4_11 bB5_11 bB6_11 bB7_11 bB8_11
  have c2_0:=HB2_11.out.cell 0 rfl
  have c2_1:=HB2_11.out.cell 1 rfl
  have c2_2:=HB2_11.out.cell 2 rfl
  have c2_3:=HB2_11.out.cell 3 rfl
  go_wp2_with fail
  refine (raxis_none t p9 _ (HG.out.ext HX11.out) HtQ.out HtI.out HtZ.out HPE.out HN0.out).mono ?_;rintro e w12 ⟨rfl,e12⟩
  have HX12:Hid (Ext w w12):=Lib.hid (HX11.out.trans e12)
  have HB2_12:=Lib.hid (Blk.ext HB2_11.out e12)
  have HB3_12:=Lib.hid (Blk.ext HB3_11.out e12)
  have HB4_12:=Lib.hid (Blk.ext HB4_11.out e12)
  have HB5_12:=Lib.hid (Blk.ext HB5_11.out e12)
  have HB6_12:=Lib.hid (Blk.ext HB6_11.out e12)
  have HB7_12:=Lib.hid (Blk.ext HB7_11.out e12)
  have HB8_12:=Lib.hid (Blk.ext HB8_11.out e12)
  clear e12 c2_0 c2_1 c2_2 c2_3
  go_upto_region 9 with fail
  refine wp_name (fun W => Ext w W∧Blk W (i2) #[.int .i64 t.w,.int .i64 t.x,.int .i64 t.y,.int .i64 t.z] 22∧Blk W (i3) #[.string (qs v.x),.string (qs v.y),.string (qs v.z)] 31∧Blk W (i4) #[.string (qs c.x),.string (qs c.y),.string (qs c.z)] 31∧Blk W (w4.heap.size) #[.string (qs r1.x),.string (qs r1.y),.string (qs r1.z),.string (qs r2.x),.string (qs r2.y),.string (qs r2.z),.string (qs r3.x),.string (qs r3.y),.string (qs r3.z)] 59∧Blk W (w6.heap.size) #[.string (qs r1.x),.string (qs r1.y),.string (qs r1.z),.string (qs r2.x),.string (qs r2.y),.string (qs r2.z),.string (qs r3.x),.string (qs r3.y),.string (qs r3.z)] 59∧Blk W (w8.heap.size) #[.string (qs Rv.x),.string (qs Rv.y),.string (qs Rv.z)] 31∧Blk W (w10.heap.size) #[.string (qs r1.x),.string (qs r1.y),.string (qs r1.z),.string (qs r2.x),.string (qs r2.y),.string (qs r2.z),.string (qs r3.x),.string (qs r3.y),.string (qs r3.z),.string (qs S.x),.string (qs S.y),.string (qs S.z)] 66∧Blk W (w12.heap.size) #[.string ⟨#[]⟩,.string ⟨#[]⟩,.string ⟨#[]⟩] 31) ⟨(HX12.out.alloc _),(HB2_12.out.alloc _),(HB3_12.out.alloc _),(HB4_12.out.alloc _),(HB5_12.out.alloc _),(HB6_12.out.alloc _),(HB7_12.out.alloc _),(HB8_12.out.alloc _),(Blk.new' (w:=_) (cs:=#[.string ⟨#[]⟩,.string ⟨#[]⟩,.string ⟨#[]⟩]) (t:=31) (by first | rfl | (simp only [World.size_alloc];done) | (simp only [World.size_alloc];omega) | simp))⟩ ?_
  rintro w13 ⟨e13,bB2_13,bB3_13,bB4_13,bB5_13,bB6_13,bB7_13,bB8_13,bB9_13⟩
  have HX13:=Lib.hid e13;have HB2_13:=Lib.hid bB2_13;have HB3_13:=Lib.hid bB3_13;have HB4_13:=Lib.hid bB4_13;have HB5_13:=Lib.hid bB5_13;have HB6_13:=Lib.hid bB6_13;have HB7_13:=Lib.hid bB7_13;have HB8_13:=Lib.hid bB8_13;have HB9_13:=Lib.hid bB9_13
  have HGEB9:Hid (w.heap.size ≤ w12.heap.size):=Lib.hid (by have:=HX12.out.size;first | omega | (simp only [];omega) | (simp;omega))
  clear e13 bB2_13 bB3_13 bB4_13 bB5_13 bB6_13 bB7_13 bB8_13 bB9_13
  have c2_0:=HB2_13.out.cell 0 rfl
  have c2_1:=HB2_13.out.cell 1 rfl
  have c2_2:=HB2_13.out.cell 2 rfl
  have c2_3:=HB2_13.out.cell 3 rfl
  go_wp2_with fail
  refine (rcos_c t _ (HG.out.ext HX13.out) HtQ.out HtI.out HtZ.out).mono ?_;rintro e w14 ⟨rfl,e14⟩
  have HX14:Hid (Ext w w14):=Lib.hid (HX13.out.trans e14)
  have HB2_14:=Lib.hid (Blk.ext HB2_13.out e14)
  have HB3_14:=Lib.hid (Blk.ext HB3_13.out e14)
  have HB4_14:=Lib.hid (Blk.ext HB4_13.out e14)
  have HB5_14:=Lib.hid (Blk.ext HB5_13.out e14)
  have HB6_14:=Lib.hid (Blk.ext HB6_13.out e14)
  have HB7_14:=Lib.hid (Blk.ext HB7_13.out e14)
  have HB8_14:=Lib.hid (Blk.ext HB8_13.out e14)
  have HB9_14:=Lib.hid (Blk.ext HB9_13.out e14)
  clear e14 c2_0 c2_1 c2_2 c2_3
  go_wp2_with fail
  refine wp_name (fun W => Ext w W∧Blk W (i2) #[.int .i64 t.w,.int .i64 t.x,.int .i64 t.y,.int .i64 t.z] 22∧Blk W (i3) #[.string (qs v.x),.string (qs v.y),.string (qs v.z)] 31∧Blk W (i4) #[.string (qs c.x),.string (qs c.y),.string (qs c.z)] 31∧Blk W (w4.heap.size) #[.string (qs r1.x),.string (qs r1.y),.string (qs r1.z),.string (qs r2.x),.string (qs r2.y),.string (qs r2.z),.string (qs r3.x),.string (qs r3.y),.string (qs r3.z)] 59∧Blk W (w6.heap.size) #[.string (qs r1.x),.string (qs r1.y),.string (qs r1.z),.string (qs r2.x),.string (qs r2.y),.string (qs r2.z),.string (qs r3.x),.string (qs r3.y),.string (qs r3.z)] 59∧Blk W (w8.heap.size) #[.string (qs Rv.x),.string (qs Rv.y),.string (qs Rv.z)] 31∧Blk W (w10.heap.size) #[.string (qs r1.x),.string (qs r1.y),.string (qs r1.z),.string (qs r2.x),.string (qs r2.y),.string (qs r2.z),.string (qs r3.x),.string (qs r3.y),.string (qs r3.z),.string (qs S.x),.string (qs S.y),.string (qs S.z)] 66∧Blk W (w12.heap.size) #[.string ⟨#[]⟩,.string ⟨#[]⟩,.string ⟨#[]⟩] 31) ⟨HX14.out,HB2_14.out,HB3_14.out,HB4_14.out,HB5_14.out,HB6_14.out,HB7_14.out,HB8_14.out,HB9_14.out⟩ ?_
  rintro w15 ⟨e15,bB2_15,bB3_15,bB4_15,bB5_15,bB6_15,bB7_15,bB8_15,bB9_15⟩
  have HX15:=Lib.hid e15;have HB2_15:=Lib.hid bB2_15;have HB3_15:=Lib.hid bB3_15;have HB4_15:=Lib.hid bB4_15;have HB5_15:=Lib.hid bB5_15;have HB6_15:=Lib.hid bB6_15;have HB7_15:=Lib.hid bB7_15;have HB8_15:=Lib.hid bB8_15;have HB9_15:=Lib.hid bB9_15
  clear e15 bB2_15 bB3_15 bB4_15 bB5_15 bB6_15 bB7_15 bB8_15 bB9_15
  refine region_lin [.val (.int .i64 0),.val (.bool false),.val (.bool false),.val (.agg #[.string (qs r1.x),.string (qs r1.y),.string (qs r1.z),.string (qs r2.x),.string (qs r2.y),.string (qs r2.z),.string (qs r3.x),.string (qs r3.y),.string (qs r3.z)]),.val (.agg #[.string (qs r1.x),.string (qs r1.y),.string (qs r1.z),.string (qs r2.x),.string (qs r2.y),.string (qs r2.z),.string (qs r3.x),.string (qs r3.y),.string (qs r3.z)]),.val (.bool false),.val (.bool false),.val (.bool false),.val (.int .i64 0),.val (.bool false),.val (.bool false),.val (.bool false),.val (.agg #[.string (qs Rv.x),.string (qs Rv.y),.string (qs Rv.z)]),.val (.agg #[.string (qs r1.x),.string (qs r1.y),.string (qs r1.z),.string (qs r2.x),.string (qs r2.y),.string (qs r2.z),.string (qs r3.x),.string (qs r3.y),.string (qs r3.z)]),.val (.agg #[.string (qs v.x),.string (qs v.y),.string (qs v.z)]),.val (.agg #[.string (qs Rv.x),.string (qs Rv.y),.string (qs Rv.z)]),.val (.bool false),.val (.bool false),.val (.bool false),.val (.int .i64 0),.val (.bool false),.val (.bool false),.val (.bool false),.val (.pointer (some ⟨w10.heap.size,0,none⟩)),.val (.agg #[.string (qs r1.x),.string (qs r1.y),.string (qs r1.z),.string (qs r2.x),.string (qs r2.y),.string (qs r2.z),.string (qs r3.x),.string (qs r3.y),.string (qs r3.z)]),.val (.agg #[.string (qs r1.x),.string (qs r1.y),.string (qs r1.z),.string (qs r2.x),.string (qs r2.y),.string (qs r2.z),.string (qs r3.x),.string (qs r3.y),.string (qs r3.z)]),.val (.bool false),.val (.bool false),.val (.bool false),.val (.pointer (some ⟨w10.heap.size,9,none⟩)),.val (.agg #[.string (qs S.x),.string (qs S.y),.string (qs S.z)]),.val (.agg #[.string (qs c.x),.string (qs c.y),.string (qs c.z)]),.val (.agg #[.string (qs r1.x),.string (qs r1.y),.string (qs r1.z),.string (qs r2.x),.string (qs r2.y),.string (qs r2.z),.string (qs r3.x),.string (qs r3.y),.string (qs r3.z)]),.val (.agg #[.string (qs c.x),.string (qs c.y),.string (qs c.z)]),.val (.agg #[.string (qs Rc.x),.string (qs Rc.y),.string (qs Rc.z)]),.val (.agg #[.string (qs S.x),.string (qs S.y),.string (qs S.z)]),.val (.bool false),.val (.bool false)] (by kernel_rfl) (by kernel_rfl) (by kernel_rfl) ?_ (fun g15 w16 hx_ hm_ hne_ => ?_)
  · skip
    refine RnL.cons (fun g15 A_ W_ hs_ => ?_) ?_
    · have q10_:=(hs_.old 10 (by kernel_rfl):A_.tmps[10]?.getD undef = .int .i64 0)
      refine Rn.val fun K_ hK_ => ?_
      go_simp
      exact hK_.out _ (Ext.refl _)
    refine RnL.cons (fun g15 A_ W_ hs_ => ?_) ?_
    · have q62_:=hs_.val 0 rfl rfl rfl
      refine Rn.val fun K_ hK_ => ?_
      go_simp
      exact hK_.out _ (Ext.refl _)
    refine RnL.cons (fun g15 A_ W_ hs_ => ?_) ?_
    · have q63_:=hs_.val 1 rfl rfl rfl
      refine Rn.val fun K_ hK_ => ?_
      go_simp
      exact hK_.out _ (Ext.refl _)
    refine RnL.cons (fun g15 A_ W_ hs_ => ?_) ?_
    · have q9_:=(hs_.old 9 (by kernel_rfl):A_.tmps[9]?.getD undef = .pointer (some ⟨w6.heap.size,0,none⟩))
      have cB6_0:=((HB6_15.out.drew.ext hs_.1)).cell 0 rfl
      have cB6_1:=((HB6_15.out.drew.ext hs_.1)).cell 1 rfl
      have cB6_2:=((HB6_15.out.drew.ext hs_.1)).cell 2 rfl
      have cB6_3:=((HB6_15.out.drew.ext hs_.1)).cell 3 rfl
      have cB6_4:=((HB6_15.out.drew.ext hs_.1)).cell 4 rfl
      have cB6_5:=((HB6_15.out.drew.ext hs_.1)).cell 5 rfl
      have cB6_6:=((HB6_15.out.drew.ext hs_.1)).cell 6 rfl
      have cB6_7:=((HB6_15.out.drew.ext hs_.1)).cell 7 rfl
      have cB6_8:=((HB6_15.out.drew.ext hs_.1)).cell 8 rfl
      refine Rn.val fun K_ hK_ => ?_
      go_simp
      exact hK_.out _ (Ext.refl _)
    refine RnL.cons (fun g15 A_ W_ hs_ => ?_) ?_
    · have q8_:=(hs_.old 8 (by kernel_rfl):A_.tmps[8]?.getD undef = .pointer (some ⟨w4.heap.size,0,none⟩))
      have cB5_0:=((HB5_15.out.drew.ext hs_.1)).cell 0 rfl
      have cB5_1:=((HB5_15.out.drew.ext hs_.1)).cell 1 rfl
      have cB5_2:=((HB5_15.out.drew.ext hs_.1)).cell 2 rfl
      have cB5_3:=((HB5_15.out.drew.ext hs_.1)).cell 3 rfl
      have cB5_4:=((HB5_15.out.drew.ext hs_.1)).cell 4 rfl
      have cB5_5:=((HB5_15.out.drew.ext hs_.1)).cell 5 rfl
      have cB5_6:=((HB5_15.out.drew.ext hs_.1)).cell 6 rfl
      have cB5_7:=((HB5_15.out.drew.ext hs_.1)).cell 7 rfl
      have cB5_8:=((HB5_15.out.drew.ext hs_.1)).cell 8 rfl
      refine Rn.val fun K_ hK_ => ?_
      go_simp
      exact hK_.out _ (Ext.refl _)
    refine RnL.cons (fun g15 A_ W_ hs_ => ?_) ?_
    · have q65_:=hs_.val 3 rfl rfl rfl
      have q66_:=hs_.val 4 rfl rfl rfl
      refine Rn.val fun K_ hK_ => ?_
      go_simp
      exact hK_.out _ (Ext.refl _)
    refine RnL.cons (fun g15 A_ W_ hs_ => ?_) ?_
    · have q64_:=hs_.val 2 rfl rfl rfl
      have q67_:=hs_.val 5 rfl rfl rfl
      refine Rn.val fun K_ hK_ => ?_
      go_simp
      exact hK_.out _ (Ext.refl _)
    refine RnL.cons (fun g15 A_ W_ hs_ => ?_) ?_
    · have q68_:=hs_.val 6 rfl rfl rfl
      refine Rn.val fun K_ hK_ => ?_
      go_simp
      exact hK_.out _ (Ext.refl _)
    refine RnL.cons (fun g15 A_ W_ hs_ => ?_) ?_
    · have q12_:=(hs_.old 12 (by kernel_rfl):A_.tmps[12]?.getD undef = .int .i64 0)
      refine Rn.val fun K_ hK_ => ?_
      go_simp
      exact hK_.out _ (Ext.refl _)
    refine RnL.cons (fun g15 A_ W_ hs_ => ?_) ?_
    · have q70_:=hs_.val 8 rfl rfl rfl
      refine Rn.val fun K_ hK_ => ?_
      go_simp
      exact hK_.out _ (Ext.refl _)
    refine RnL.cons (fun g15 A_ W_ hs_ => ?_) ?_
    · have q69_:=hs_.val 7 rfl rfl rfl
      have q71_:=hs_.val 9 rfl rfl rfl
      refine Rn.val fun K_ hK_ => ?_
      go_simp
      exact hK_.out _ (Ext.refl _)
    refine RnL.cons (fun g15 A_ W_ hs_ => ?_) ?_
    · have q72_:=hs_.val 10 rfl rfl rfl
      refine Rn.val fun K_ hK_ => ?_
      go_simp
      exact hK_.out _ (Ext.refl _)
    refine RnL.cons (fun g15 A_ W_ hs_ => ?_) ?_
    · have q11_:=(hs_.old 11 (by kernel_rfl):A_.tmps[11]?.getD undef = .pointer (some ⟨w8.heap.size,0,none⟩))
      have cB7_0:=((HB7_15.out.drew.ext hs_.1)).cell 0 rfl
      have cB7_1:=((HB7_15.out.drew.ext hs_.1)).cell 1 rfl
      have cB7_2:=((HB7_15.out.drew.ext hs_.1)).cell 2 rfl
      refine Rn.val fun K_ hK_ => ?_
      go_simp
      exact hK_.out _ (Ext.refl _)
    refine RnL.cons (fun g15 A_ W_ hs_ => ?_) ?_
    · have q8_:=(hs_.old 8 (by kernel_rfl):A_.tmps[8]?.getD undef = .pointer (some ⟨w4.heap.size,0,none⟩))
      have cB5_0:=((HB5_15.out.drew.ext hs_.1)).cell 0 rfl
      have cB5_1:=((HB5_15.out.drew.ext hs_.1)).cell 1 rfl
      have cB5_2:=((HB5_15.out.drew.ext hs_.1)).cell 2 rfl
      have cB5_3:=((HB5_15.out.drew.ext hs_.1)).cell 3 rfl
      have cB5_4:=((HB5_15.out.drew.ext hs_.1)).cell 4 rfl
      have cB5_5:=((HB5_15.out.drew.ext hs_.1)).cell 5 rfl
      have cB5_6:=((HB5_15.out.drew.ext hs_.1)).cell 6 rfl
      have cB5_7:=((HB5_15.out.drew.ext hs_.1)).cell 7 rfl
      have cB5_8:=((HB5_15.out.drew.ext hs_.1)).cell 8 rfl
      refine Rn.val fun K_ hK_ => ?_
      go_simp
      exact hK_.out _ (Ext.refl _)
    refine RnL.cons (fun g15 A_ W_ hs_ => ?_) ?_
    · have q6_:=(hs_.old 6 (by kernel_rfl):A_.tmps[6]?.getD undef = .pointer (some ⟨i3,0,none⟩))
      have cB3_0:=((HB3_15.out.drew.ext hs_.1)).cell 0 rfl
      have cB3_1:=((HB3_15.out.drew.ext hs_.1)).cell 1 rfl
      have cB3_2:=((HB3_15.out.drew.ext hs_.1)).cell 2 rfl
      refine Rn.val fun K_ hK_ => ?_
      go_simp
      exact hK_.out _ (Ext.refl _)
    refine RnL.cons (fun g15 A_ W_ hs_ => ?_) ?_
    · have q75_:=hs_.val 13 rfl rfl rfl
      have q76_:=hs_.val 14 rfl rfl rfl
      refine Rn.val fun K_ hK_ => ?_
      go_simp
      refine (lapply_as t v Rv r1 r2 r3 HRvE.out Hr1E.out Hr2E.out Hr3E.out _ (HG.out.ext (HX15.out.drew.trans hs_.1)) HtI.out HtZ.out Hv.out (by decide)).mono ?_;rintro e W9_ ⟨rfl,e9_⟩;exact hK_.out _ e9_
    refine RnL.cons (fun g15 A_ W_ hs_ => ?_) ?_
    · have q74_:=hs_.val 12 rfl rfl rfl
      have q77_:=hs_.val 15 rfl rfl rfl
      refine Rn.val fun K_ hK_ => ?_
      go_simp
      exact hK_.out _ (Ext.refl _)
    refine RnL.cons (fun g15 A_ W_ hs_ => ?_) ?_
    · have q73_:=hs_.val 11 rfl rfl rfl
      have q78_:=hs_.val 16 rfl rfl rfl
      refine Rn.val fun K_ hK_ => ?_
      go_simp
      exact hK_.out _ (Ext.refl _)
    refine RnL.cons (fun g15 A_ W_ hs_ => ?_) ?_
    · have q79_:=hs_.val 17 rfl rfl rfl
      refine Rn.val fun K_ hK_ => ?_
      go_simp
      exact hK_.out _ (Ext.refl _)
    refine RnL.cons (fun g15 A_ W_ hs_ => ?_) ?_
    · have q14_:=(hs_.old 14 (by kernel_rfl):A_.tmps[14]?.getD undef = .int .i64 0)
      refine Rn.val fun K_ hK_ => ?_
      go_simp
      exact hK_.out _ (Ext.refl _)
    refine RnL.cons (fun g15 A_ W_ hs_ => ?_) ?_
    · have q81_:=hs_.val 19 rfl rfl rfl
      refine Rn.val fun K_ hK_ => ?_
      go_simp
      exact hK_.out _ (Ext.refl _)
    refine RnL.cons (fun g15 A_ W_ hs_ => ?_) ?_
    · have q80_:=hs_.val 18 rfl rfl rfl
      have q82_:=hs_.val 20 rfl rfl rfl
      refine Rn.val fun K_ hK_ => ?_
      go_simp
      exact hK_.out _ (Ext.refl _)
    refine RnL.cons (fun g15 A_ W_ hs_ => ?_) ?_
    · have q83_:=hs_.val 21 rfl rfl rfl
      refine Rn.val fun K_ hK_ => ?_
      go_simp
      exact hK_.out _ (Ext.refl _)
    refine RnL.cons (fun g15 A_ W_ hs_ => ?_) ?_
    · have q13_:=(hs_.old 13 (by kernel_rfl):A_.tmps[13]?.getD undef = .pointer (some ⟨w10.heap.size,0,none⟩))
      refine Rn.val fun K_ hK_ => ?_
      go_simp
      exact hK_.out _ (Ext.refl _)
    refine RnL.cons (fun g15 A_ W_ hs_ => ?_) ?_
    · have q85_:=hs_.val 23 rfl rfl rfl
      have cB8_0:=((HB8_15.out.drew.ext hs_.1)).cell 0 rfl
      have cB8_1:=((HB8_15.out.drew.ext hs_.1)).cell 1 rfl
      have cB8_2:=((HB8_15.out.drew.ext hs_.1)).cell 2 rfl
      have cB8_3:=((HB8_15.out.drew.ext hs_.1)).cell 3 rfl
      have cB8_4:=((HB8_15.out.drew.ext hs_.1)).cell 4 rfl
      have cB8_5:=((HB8_15.out.drew.ext hs_.1)).cell 5 rfl
      have cB8_6:=((HB8_15.out.drew.ext hs_.1)).cell 6 rfl
      have cB8_7:=((HB8_15.out.drew.ext hs_.1)).cell 7 rfl
      have cB8_8:=((HB8_15.out.drew.ext hs_.1)).cell 8 rfl
      refine Rn.val fun K_ hK_ => ?_
      go_simp
      exact hK_.out _ (Ext.refl _)
    refine RnL.cons (fun g15 A_ W_ hs_ => ?_) ?_
    · have q8_:=(hs_.old 8 (by kernel_rfl):A_.tmps[8]?.getD undef = .pointer (some ⟨w4.heap.size,0,none⟩))
      have cB5_0:=((HB5_15.out.drew.ext hs_.1)).cell 0 rfl
      have cB5_1:=((HB5_15.out.drew.ext hs_.1)).cell 1 rfl
      have cB5_2:=((HB5_15.out.drew.ext hs_.1)).cell 2 rfl
      have cB5_3:=((HB5_15.out.drew.ext hs_.1)).cell 3 rfl
      have cB5_4:=((HB5_15.out.drew.ext hs_.1)).cell 4 rfl
      have cB5_5:=((HB5_15.out.drew.ext hs_.1)).cell 5 rfl
      have cB5_6:=((HB5_15.out.drew.ext hs_.1)).cell 6 rfl
      have cB5_7:=((HB5_15.out.drew.ext hs_.1)).cell 7 rfl
      have cB5_8:=((HB5_15.out.drew.ext hs_.1)).cell 8 rfl
      refine Rn.val fun K_ hK_ => ?_
      go_simp
      exact hK_.out _ (Ext.refl _)
    refine RnL.cons (fun g15 A_ W_ hs_ => ?_) ?_
    · have q86_:=hs_.val 24 rfl rfl rfl
      have q87_:=hs_.val 25 rfl rfl rfl
      refine Rn.val fun K_ hK_ => ?_
      go_simp
      exact hK_.out _ (Ext.refl _)
    refine RnL.cons (fun g15 A_ W_ hs_ => ?_) ?_
    · have q84_:=hs_.val 22 rfl rfl rfl
      have q88_:=hs_.val 26 rfl rfl rfl
      refine Rn.val fun K_ hK_ => ?_
      go_simp
      exact hK_.out _ (Ext.refl _)
    refine RnL.cons (fun g15 A_ W_ hs_ => ?_) ?_
    · have q89_:=hs_.val 27 rfl rfl rfl
      refine Rn.val fun K_ hK_ => ?_
      go_simp
      exact hK_.out _ (Ext.refl _)
    refine RnL.cons (fun g15 A_ W_ hs_ => ?_) ?_
    · have q13_:=(hs_.old 13 (by kernel_rfl):A_.tmps[13]?.getD undef = .pointer (some ⟨w10.heap.size,0,none⟩))
      refine Rn.val fun K_ hK_ => ?_
      go_simp
      exact hK_.out _ (Ext.refl _)
    refine RnL.cons (fun g15 A_ W_ hs_ => ?_) ?_
    · have q91_:=hs_.val 29 rfl rfl rfl
      have cB8_9:=((HB8_15.out.drew.ext hs_.1)).cell 9 rfl
      have cB8_10:=((HB8_15.out.drew.ext hs_.1)).cell 10 rfl
      have cB8_11:=((HB8_15.out.drew.ext hs_.1)).cell 11 rfl
      refine Rn.val fun K_ hK_ => ?_
      go_simp
      exact hK_.out _ (Ext.refl _)
    refine RnL.cons (fun g15 A_ W_ hs_ => ?_) ?_
    · have q7_:=(hs_.old 7 (by kernel_rfl):A_.tmps[7]?.getD undef = .pointer (some ⟨i4,0,none⟩))
      have cB4_0:=((HB4_15.out.drew.ext hs_.1)).cell 0 rfl
      have cB4_1:=((HB4_15.out.drew.ext hs_.1)).cell 1 rfl
      have cB4_2:=((HB4_15.out.drew.ext hs_.1)).cell 2 rfl
      refine Rn.val fun K_ hK_ => ?_
      go_simp
      exact hK_.out _ (Ext.refl _)
    refine RnL.cons (fun g15 A_ W_ hs_ => ?_) ?_
    · have q8_:=(hs_.old 8 (by kernel_rfl):A_.tmps[8]?.getD undef = .pointer (some ⟨w4.heap.size,0,none⟩))
      have cB5_0:=((HB5_15.out.drew.ext hs_.1)).cell 0 rfl
      have cB5_1:=((HB5_15.out.drew.ext hs_.1)).cell 1 rfl
      have cB5_2:=((HB5_15.out.drew.ext hs_.1)).cell 2 rfl
      have cB5_3:=((HB5_15.out.drew.ext hs_.1)).cell 3 rfl
      have cB5_4:=((HB5_15.out.drew.ext hs_.1)).cell 4 rfl
      have cB5_5:=((HB5_15.out.drew.ext hs_.1)).cell 5 rfl
      have cB5_6:=((HB5_15.out.drew.ext hs_.1)).cell 6 rfl
      have cB5_7:=((HB5_15.out.drew.ext hs_.1)).cell 7 rfl
      have cB5_8:=((HB5_15.out.drew.ext hs_.1)).cell 8 rfl
      refine Rn.val fun K_ hK_ => ?_
      go_simp
      exact hK_.out _ (Ext.refl _)
    refine RnL.cons (fun g15 A_ W_ hs_ => ?_) ?_
    · have q7_:=(hs_.old 7 (by kernel_rfl):A_.tmps[7]?.getD undef = .pointer (some ⟨i4,0,none⟩))
      have cB4_0:=((HB4_15.out.drew.ext hs_.1)).cell 0 rfl
      have cB4_1:=((HB4_15.out.drew.ext hs_.1)).cell 1 rfl
      have cB4_2:=((HB4_15.out.drew.ext hs_.1)).cell 2 rfl
      refine Rn.val fun K_ hK_ => ?_
      go_simp
      exact hK_.out _ (Ext.refl _)
    refine RnL.cons (fun g15 A_ W_ hs_ => ?_) ?_
    · have q94_:=hs_.val 32 rfl rfl rfl
      have q95_:=hs_.val 33 rfl rfl rfl
      refine Rn.val fun K_ hK_ => ?_
      go_simp
      refine (lapply_as t c Rc r1 r2 r3 HRcE.out Hr1E.out Hr2E.out Hr3E.out _ (HG.out.ext (HX15.out.drew.trans hs_.1)) HtI.out HtZ.out Hc.out (by decide)).mono ?_;rintro e W9_ ⟨rfl,e9_⟩;exact hK_.out _ e9_
    refine RnL.cons (fun g15 A_ W_ hs_ => ?_) ?_
    · have q93_:=hs_.val 31 rfl rfl rfl
      have q96_:=hs_.val 34 rfl rfl rfl
      refine Rn.val fun K_ hK_ => ?_
      go_simp
      refine (ssub_as c Rc S HSE.out _ (HG.out.ext (HX15.out.drew.trans hs_.1)) Hc.out HRc.out (by decide) (by decide)).mono ?_;rintro e W9_ ⟨rfl,e9_⟩;exact hK_.out _ e9_
    refine RnL.cons (fun g15 A_ W_ hs_ => ?_) ?_
    · have q92_:=hs_.val 30 rfl rfl rfl
      have q97_:=hs_.val 35 rfl rfl rfl
      refine Rn.val fun K_ hK_ => ?_
      go_simp
      exact hK_.out _ (Ext.refl _)
    refine RnL.cons (fun g15 A_ W_ hs_ => ?_) ?_
    · have q90_:=hs_.val 28 rfl rfl rfl
      have q98_:=hs_.val 36 rfl rfl rfl
      refine Rn.val fun K_ hK_ => ?_
      go_simp
      exact hK_.out _ (Ext.refl _)
    exact RnL.nil
  simp only [fs,Kd.value,puts,Act.put,List.setIfInBounds_toArray,List.set_cons_zero,List.set_cons_succ]
  have HX16:Hid (Ext w w16):=Lib.hid (HX15.out.drew.trans hx_)
  have HB2_16:=Lib.hid (HB2_15.out.drew.ext hx_)
  have HB9_16:=Lib.hid (HB9_15.out.drew.ext hx_)
  clear hx_ hm_ hne_
  have c2_0:=HB2_16.out.cell 0 rfl
  have c2_1:=HB2_16.out.cell 1 rfl
  have c2_2:=HB2_16.out.cell 2 rfl
  have c2_3:=HB2_16.out.cell 3 rfl
  go_wp2_with fail
  refine (lcos_c t _ (HG.out.ext HX16.out) HtI.out HtZ.out).mono ?_;rintro e w17 ⟨rfl,e17⟩
  have HX17:Hid (Ext w w17):=Lib.hid (HX16.out.trans e17)
  have HB2_17:=Lib.hid (Blk.ext HB2_16.out e17)
  have HB9_17:=Lib.hid (Blk.ext HB9_16.out e17)
  clear e17 c2_0 c2_1 c2_2 c2_3
  have c2_0:=HB2_17.out.cell 0 rfl
  have c2_1:=HB2_17.out.cell 1 rfl
  have c2_2:=HB2_17.out.cell 2 rfl
  have c2_3:=HB2_17.out.cell 3 rfl
  go_wp2_with fail
  refine (lprim_as t p9 HPE.out _ (HG.out.ext HX17.out) HtI.out.bd HtZ.out).mono ?_;rintro e w18 ⟨rfl,e18⟩
  have HX18:Hid (Ext w w18):=Lib.hid (HX17.out.trans e18)
  have HB9_18:=Lib.hid (Blk.ext HB9_17.out e18)
  clear e18 c2_0 c2_1 c2_2 c2_3
  go_upto_region 16 with fail
  refine wp_name (fun W => Ext w W∧Blk W (w12.heap.size) #[.string ⟨#[]⟩,.string ⟨#[]⟩,.string ⟨#[]⟩] 31∧Blk W (w18.heap.size) #[.int .i64 p9.w,.int .i64 p9.x,.int .i64 p9.y,.int .i64 p9.z] 22) ⟨(HX18.out.alloc _),(HB9_18.out.alloc _),(Blk.new' (w:=_) (cs:=#[.int .i64 p9.w,.int .i64 p9.x,.int .i64 p9.y,.int .i64 p9.z]) (t:=22) (by first | rfl | (simp only [World.size_alloc];done) | (simp only [World.size_alloc];omega) | simp))⟩ ?_
  rintro w19 ⟨e19,bB9_19,bB10_19⟩
  have HX19:=Lib.hid e19;have HB9_19:=Lib.hid bB9_19;have HB10_19:=Lib.hid bB10_19
  have HGEB10:Hid (w.heap.size ≤ w18.heap.size):=Lib.hid (by have:=HX18.out.size;first | omega | (simp only [];omega) | (simp;omega))
  clear e19 bB9_19 bB10_19
  have c10_1:=HB10_19.out.cell 1 rfl
  have c10_2:=HB10_19.out.cell 2 rfl
  have c10_3:=HB10_19.out.cell 3 rfl
  go_wp2_with fail
  refine (sof_as p9.x p9.y p9.z A HAE.out _ (HG.out.ext HX19.out) HPN.out.1 HPN.out.2.1 HPN.out.2.2).mono ?_;rintro e w20 ⟨rfl,e20⟩
  have HX20:Hid (Ext w w20):=Lib.hid (HX19.out.trans e20)
  have HB9_20:=Lib.hid (Blk.ext HB9_19.out e20)
  clear e20 c10_1 c10_2 c10_3
  go_wp2_with fail
  refine (vPrim_zero A _ (HG.out.ext HX20.out) (HAV.out.mono (by decide)) HNZ.out).mono ?_;rintro e w21 ⟨rfl,e21⟩
  have HX21:Hid (Ext w w21):=Lib.hid (HX20.out.trans e21)
  have HB9_21:=Lib.hid (Blk.ext HB9_20.out e21)
  clear e21
  go_upto_region 18 with fail
  refine wp_name (fun W => Ext w W∧Blk W (w12.heap.size) #[.string ⟨#[]⟩,.string ⟨#[]⟩,.string ⟨#[]⟩] 31) ⟨(HX21.out.alloc _),(HB9_21.out.alloc _)⟩ ?_
  rintro w22 ⟨e22,bB9_22⟩
  have HX22:=Lib.hid e22;have HB9_22:=Lib.hid bB9_22
  clear e22 bB9_22
  have c9_0:=HB9_22.out.cell 0 rfl
  have c9_1:=HB9_22.out.cell 1 rfl
  have c9_2:=HB9_22.out.cell 2 rfl
  go_wp2
  go_ret
  exact ⟨rfl,HX22.out⟩

theorem mats17_walk (n0 n1 n2 n3:Int) (p q:Pla) (w:World) (g:Gd w) (hn0:-128 ≤ n0∧n0 ≤ 127) (hn1:-128 ≤ n1∧n1 ≤ 127) (hn2:-128 ≤ n2∧n2 ≤ 127) (hn3:-128 ≤ n3∧n3 ≤ 127) (hp:PlaOk p) (hq:PlaOk q):Calls Tryz.prog 7 #[.agg #[.int .i8 n0,.int .i8 n1,.int .i8 n2,.int .i8 n3],.agg #[.int .i16 p.n0,.int .u8 (p.d0:Int),.int .i16 p.n1,.int .u8 (p.d1:Int),.int .i16 p.n2,.int .u8 (p.d2:Int),.int .i16 q.n0,.int .u8 (q.d0:Int),.int .i16 q.n1,.int .u8 (q.d1:Int),.int .i16 q.n2,.int .u8 (q.d2:Int)]] w (Ret w (.bool true)):=by
  by_cases hz:(iv (prim4 (mk4 n0 n1 n2 n3)).x (prim4 (mk4 n0 n1 n2 n3)).y (prim4 (mk4 n0 n1 n2 n3)).z).x = 0∧(iv (prim4 (mk4 n0 n1 n2 n3)).x (prim4 (mk4 n0 n1 n2 n3)).y (prim4 (mk4 n0 n1 n2 n3)).z).y = 0∧(iv (prim4 (mk4 n0 n1 n2 n3)).x (prim4 (mk4 n0 n1 n2 n3)).y (prim4 (mk4 n0 n1 n2 n3)).z).z = 0
  · exact mats17_none n0 n1 n2 n3 p q w g hn0 hn1 hn2 hn3 hp hq hz
  · exact mats17_ok n0 n1 n2 n3 p q w g hn0 hn1 hn2 hn3 hp hq hz
end Go.Proofs.YtjeimihnoiephaaGreatDoor
