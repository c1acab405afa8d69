/- Part 65 of the proof: M14. -/
import Derived.Test.YtjeimihnoiephaaGreatDoorQX1
import Derived.Test.YtjeimihnoiephaaGreatDoorQX2
import Derived.Test.YtjeimihnoiephaaGreatDoorQX3
import Derived.Test.YtjeimihnoiephaaGreatDoorQX4
import Derived.Test.YtjeimihnoiephaaGreatDoorQX5
import Derived.Test.YtjeimihnoiephaaGreatDoorQX6
import Derived.Test.YtjeimihnoiephaaGreatDoorQX7
import Derived.Test.YtjeimihnoiephaaGreatDoorQX8
import Derived.Test.YtjeimihnoiephaaGreatDoorQX9
import Derived.Test.YtjeimihnoiephaaGreatDoorQX10
import Derived.Test.YtjeimihnoiephaaGreatDoorQX11
import Derived.Test.YtjeimihnoiephaaGreatDoorQX12
import Derived.Test.YtjeimihnoiephaaGreatDoorQX13
import Derived.Test.YtjeimihnoiephaaGreatDoorQX14
import Derived.Test.YtjeimihnoiephaaGreatDoorQX15
import Derived.Test.YtjeimihnoiephaaGreatDoorQX16
import Derived.Test.YtjeimihnoiephaaGreatDoorQX17
import Derived.Test.YtjeimihnoiephaaGreatDoorQX18
import Derived.Test.YtjeimihnoiephaaGreatDoorQX19
import Derived.Test.YtjeimihnoiephaaGreatDoorQX20
import Derived.Test.YtjeimihnoiephaaGreatDoorQX21
import Derived.Test.YtjeimihnoiephaaGreatDoorQX22
import Derived.Test.YtjeimihnoiephaaGreatDoorQX23
import Derived.Test.YtjeimihnoiephaaGreatDoorQX24
import Derived.Test.YtjeimihnoiephaaGreatDoorQX25
import Derived.Test.YtjeimihnoiephaaGreatDoorQX26
import Derived.Test.YtjeimihnoiephaaGreatDoorQX27
import Derived.Test.YtjeimihnoiephaaGreatDoorQX28
import Derived.Test.YtjeimihnoiephaaGreatDoorQX29
import Derived.Test.YtjeimihnoiephaaGreatDoorQX32
import Derived.Test.YtjeimihnoiephaaGreatDoorQX34
import Derived.Test.YtjeimihnoiephaaGreatDoorQX35
import Derived.Test.YtjeimihnoiephaaGreatDoorQX37
import Derived.Test.YtjeimihnoiephaaGreatDoorQX39
import Derived.Test.YtjeimihnoiephaaGreatDoorQX48
import Derived.Test.YtjeimihnoiephaaGreatDoorQX51
import Derived.Test.YtjeimihnoiephaaGreatDoorQX56
import Derived.Test.YtjeimihnoiephaaGreatDoorQX60
import Derived.Test.YtjeimihnoiephaaGreatDoorQX62
import Derived.Test.YtjeimihnoiephaaGreatDoorQX63
import Derived.Test.YtjeimihnoiephaaGreatDoorQX64
namespace Go.Proofs.YtjeimihnoiephaaGreatDoor
open Go Go.RowKit
set_option linter.unusedVariables false
theorem rwhole1_in (y z u:Rat) (N p:Q4) (w:World) (g:Gd w) (h1:QB 100 y) (h2:QB 100 z) (h3:QB 100 u) (hn:num4 1 y z u = N) (hz:¬ N.zero) (hp:prim4 N = p) (hi:Q4In p):Calls Tryz.prog 45 #[.agg #[.string ⟨#[49]⟩,.string (qs y),.string (qs z),.string (qs u)]] w (Ret w (.tuple #[.agg #[.int .i64 p.w,.int .i64 p.x,.int .i64 p.y,.int .i64 p.z],.int .i64 0])):=by
  have h:=rwhole_in 1 y z u N p w g ((⟨by decide,by decide⟩:QB 1 1).mono (by decide)) h1 h2 h3 hn (by decide) hp hi
  rw [qs_one] at h
  exact h
theorem rwhole1_no (y z u:Rat) (N p:Q4) (w:World) (g:Gd w) (h1:QB 100 y) (h2:QB 100 z) (h3:QB 100 u) (hn:num4 1 y z u = N) (hz:¬ N.zero) (hp:prim4 N = p) (hi:¬ Q4In p):Calls Tryz.prog 45 #[.agg #[.string ⟨#[49]⟩,.string (qs y),.string (qs z),.string (qs u)]] w (Ret w (.tuple #[.agg #[.int .i64 0,.int .i64 0,.int .i64 0,.int .i64 0],.int .i64 4])):=by
  have h:=rwhole_no 1 y z u N p w g ((⟨by decide,by decide⟩:QB 1 1).mono (by decide)) h1 h2 h3 hn (by decide) hp hi
  rw [qs_one] at h
  exact h
theorem sright_q (v:V3) (w:World) (g:Gd w) (hv:VB 200 v):Calls Tryz.prog 15 #[.agg #[.string (qs v.x),.string (qs v.y),.string (qs v.z)]] w (Ret w (.bool true)) :=
  sright_3 ⟨qs v.x,qs v.y,qs v.z⟩ w g hv.ts (rq_qs hv.x) (rq_qs hv.y) (rq_qs hv.z)
theorem fqright_no (s:ByteArray) (w:World) (g:Gd w) (hl:s.size ≤ 1000000) (h:rq s = false):Calls Tryz.prog 16 #[.string s] w (Ret w (.bool false)):=fqright_c s w g false hl ⟨fun e => absurd e (rq_false.1 h),fun _ => rfl⟩
theorem fqright_yes (q:Rat) (w:World) (g:Gd w) (h:QB 200 q):Calls Tryz.prog 16 #[.string (qs q)] w (Ret w (.bool true)):=fqright_c (qs q) w g true (h.len (by decide)) ⟨fun _ => rfl,fun e => absurd (rq_true.1 (rq_qs h)) e⟩

set_option maxRecDepth 100000 in
set_option maxHeartbeats 2000000 in
theorem rar_v (n:T3) (k:ByteArray) (w:World) (g:Gd w) (hn:TS n) (he:terr n.l = 2):Calls Tryz.prog 14 #[.agg #[.string n.x,.string n.y,.string n.z],.string k] w (Ret w (.tuple #[.agg #[.int .i64 0,.int .i64 0,.int .i64 0,.int .i64 0],.int .i64 2])):=by
  have HN:=Lib.hid hn
  have HE:=Lib.hid he
  have HG:=Lib.hid g
  clear hn he g
  go_enter Tryz.func14,Tryz.ntmps14
  go_wp2_with fail
  refine ((HE.out ▸ vcheck_c n _ (HG.out.ext (((Ext.refl w).alloc _).alloc _)) HN.out)).mono ?_;rintro e w1 ⟨rfl,e1⟩
  have HX1:Hid (Ext w w1):=Lib.hid ((((Ext.refl w).alloc _).alloc _).trans e1)
  have HB1_1:Hid (Blk w1 (w.heap.size + 1) #[.int .i64 0,.int .i64 0,.int .i64 0,.int .i64 0] 22):=Lib.hid (Blk.ext (Blk.new' (w:=_) (cs:=#[.int .i64 0,.int .i64 0,.int .i64 0,.int .i64 0]) (t:=22) (by first | rfl | (simp only [World.size_alloc];done) | (simp only [World.size_alloc];omega) | simp)) e1)
  have HGEB1:Hid (w.heap.size ≤ w.heap.size + 1):=Lib.hid (by first | omega | (simp only [];omega) | (simp;omega))
  clear e1
  have c1_0:=HB1_1.out.cell 0 rfl
  have f1_0:=HB1_1.out.free 0
  have c1_1:=HB1_1.out.cell 1 rfl
  have f1_1:=HB1_1.out.free 1
  have c1_2:=HB1_1.out.cell 2 rfl
  have f1_2:=HB1_1.out.free 2
  have c1_3:=HB1_1.out.cell 3 rfl
  have f1_3:=HB1_1.out.free 3
  go_wp2_with fail
  refine wp_name (fun W => Ext w W∧Blk W (w.heap.size + 1) #[.int .i64 0,.int .i64 0,.int .i64 0,.int .i64 0] 22) ⟨((((HX1.out.setCell (by have:=HGEB1.out;first | omega | (simp only [];omega) | (simp;omega)) _).setCell (by have:=HGEB1.out;first | omega | (simp only [];omega) | (simp;omega)) _).setCell (by have:=HGEB1.out;first | omega | (simp only [];omega) | (simp;omega)) _).setCell (by have:=HGEB1.out;first | omega | (simp only [];omega) | (simp;omega)) _),((((HB1_1.out.set 0 (.int .i64 0)).set 1 (.int .i64 0)).set 2 (.int .i64 0)).set 3 (.int .i64 0))⟩ ?_
  rintro w2 ⟨e2,bB1_2⟩
  have HX2:=Lib.hid e2;have HB1_2:=Lib.hid bB1_2
  clear e2 bB1_2 c1_0 f1_0 c1_1 f1_1 c1_2 f1_2 c1_3 f1_3
  have gB1_0:=HB1_2.out.cell 0 rfl
  have gB1_1:=HB1_2.out.cell 1 rfl
  have gB1_2:=HB1_2.out.cell 2 rfl
  have gB1_3:=HB1_2.out.cell 3 rfl
  refine bodyPost_ret (v:=.tuple #[.agg #[.int .i64 0,.int .i64 0,.int .i64 0,.int .i64 0],.int .i64 2]) (by simp [results,Tryz.results14,go_sem,gB1_0,gB1_1,gB1_2,gB1_3]) rfl ⟨rfl,HX2.out⟩

set_option maxRecDepth 100000 in
set_option maxHeartbeats 2000000 in
theorem rar_k (n:V3) (k:ByteArray) (w:World) (g:Gd w) (hn:VB 40 n) (hk:k.size ≤ 1000000) (hq:rq k = false):Calls Tryz.prog 14 #[.agg #[.string (qs n.x),.string (qs n.y),.string (qs n.z)],.string k] w (Ret w (.tuple #[.agg #[.int .i64 0,.int .i64 0,.int .i64 0,.int .i64 0],.int .i64 2])):=by
  have HN:=Lib.hid hn
  have HK:=Lib.hid hk
  have HQ:=Lib.hid hq
  have HG:=Lib.hid g
  clear hn hk hq g
  go_enter Tryz.func14,Tryz.ntmps14
  go_wp2_with fail
  refine (vCheck_ok n _ (HG.out.ext (((Ext.refl w).alloc _).alloc _)) (HN.out.mono (by decide))).mono ?_;rintro e w1 ⟨rfl,e1⟩
  have HX1:Hid (Ext w w1):=Lib.hid ((((Ext.refl w).alloc _).alloc _).trans e1)
  have HB1_1:Hid (Blk w1 (w.heap.size + 1) #[.int .i64 0,.int .i64 0,.int .i64 0,.int .i64 0] 22):=Lib.hid (Blk.ext (Blk.new' (w:=_) (cs:=#[.int .i64 0,.int .i64 0,.int .i64 0,.int .i64 0]) (t:=22) (by first | rfl | (simp only [World.size_alloc];done) | (simp only [World.size_alloc];omega) | simp)) e1)
  have HGEB1:Hid (w.heap.size ≤ w.heap.size + 1):=Lib.hid (by first | omega | (simp only [];omega) | (simp;omega))
  clear e1
  go_wp2_with fail
  refine (rcheck_not k _ (HG.out.ext HX1.out) HK.out HQ.out).mono ?_;rintro e w2 ⟨rfl,e2⟩
  have HX2:Hid (Ext w w2):=Lib.hid (HX1.out.trans e2)
  have HB1_2:=Lib.hid (Blk.ext HB1_1.out e2)
  clear e2
  have c1_0:=HB1_2.out.cell 0 rfl
  have f1_0:=HB1_2.out.free 0
  have c1_1:=HB1_2.out.cell 1 rfl
  have f1_1:=HB1_2.out.free 1
  have c1_2:=HB1_2.out.cell 2 rfl
  have f1_2:=HB1_2.out.free 2
  have c1_3:=HB1_2.out.cell 3 rfl
  have f1_3:=HB1_2.out.free 3
  go_wp2_with fail
  refine wp_name (fun W => Ext w W∧Blk W (w.heap.size + 1) #[.int .i64 0,.int .i64 0,.int .i64 0,.int .i64 0] 22) ⟨((((HX2.out.setCell (by have:=HGEB1.out;first | omega | (simp only [];omega) | (simp;omega)) _).setCell (by have:=HGEB1.out;first | omega | (simp only [];omega) | (simp;omega)) _).setCell (by have:=HGEB1.out;first | omega | (simp only [];omega) | (simp;omega)) _).setCell (by have:=HGEB1.out;first | omega | (simp only [];omega) | (simp;omega)) _),((((HB1_2.out.set 0 (.int .i64 0)).set 1 (.int .i64 0)).set 2 (.int .i64 0)).set 3 (.int .i64 0))⟩ ?_
  rintro w3 ⟨e3,bB1_3⟩
  have HX3:=Lib.hid e3;have HB1_3:=Lib.hid bB1_3
  clear e3 bB1_3 c1_0 f1_0 c1_1 f1_1 c1_2 f1_2 c1_3 f1_3
  have gB1_0:=HB1_3.out.cell 0 rfl
  have gB1_1:=HB1_3.out.cell 1 rfl
  have gB1_2:=HB1_3.out.cell 2 rfl
  have gB1_3:=HB1_3.out.cell 3 rfl
  refine bodyPost_ret (v:=.tuple #[.agg #[.int .i64 0,.int .i64 0,.int .i64 0,.int .i64 0],.int .i64 2]) (by simp [results,Tryz.results14,go_sem,gB1_0,gB1_1,gB1_2,gB1_3]) rfl ⟨rfl,HX3.out⟩

set_option maxRecDepth 100000 in
set_option maxHeartbeats 4000000 in
theorem rar_in (n:V3) (q:Rat) (N p:Q4) (w:World) (g:Gd w) (hn:VB 40 n) (hq:QB 40 q) (hN:num4 1 (q * n.x) (q * n.y) (q * n.z) = N) (hz:¬ N.zero) (hp:prim4 N = p) (hi:Q4In p):Calls Tryz.prog 14 #[.agg #[.string (qs n.x),.string (qs n.y),.string (qs n.z)],.string (qs q)] w (Ret w (.tuple #[.agg #[.int .i64 p.w,.int .i64 p.x,.int .i64 p.y,.int .i64 p.z],.int .i64 0])):=by
  have HN:=Lib.hid hn
  have HQ:=Lib.hid hq
  have HNE:=Lib.hid hN
  have HZ:=Lib.hid hz
  have HP:=Lib.hid hp
  have HPI:=Lib.hid hi
  have HG:=Lib.hid g
  clear hn hq hN hz hp hi g
  go_enter Tryz.func14,Tryz.ntmps14
  go_wp2_with fail
  refine (vCheck_ok n _ (HG.out.ext (((Ext.refl w).alloc _).alloc _)) (HN.out.mono (by decide))).mono ?_;rintro e w1 ⟨rfl,e1⟩
  have HX1:Hid (Ext w w1):=Lib.hid ((((Ext.refl w).alloc _).alloc _).trans e1)
  have HB0_1:Hid (Blk w1 (w.heap.size) #[.string (qs n.x),.string (qs n.y),.string (qs n.z)] 31):=Lib.hid (Blk.ext ((Blk.new' (w:=_) (cs:=#[.string (qs n.x),.string (qs n.y),.string (qs n.z)]) (t:=31) (by first | rfl | (simp only [World.size_alloc];done) | (simp only [World.size_alloc];omega) | simp)).alloc _) e1)
  have HB1_1:Hid (Blk w1 (w.heap.size + 1) #[.int .i64 0,.int .i64 0,.int .i64 0,.int .i64 0] 22):=Lib.hid (Blk.ext (Blk.new' (w:=_) (cs:=#[.int .i64 0,.int .i64 0,.int .i64 0,.int .i64 0]) (t:=22) (by first | rfl | (simp only [World.size_alloc];done) | (simp only [World.size_alloc];omega) | simp)) e1)
  have HGEB0:Hid (w.heap.size ≤ w.heap.size):=Lib.hid (by first | omega | (simp only [];omega) | (simp;omega))
  have HGEB1:Hid (w.heap.size ≤ w.heap.size + 1):=Lib.hid (by first | omega | (simp only [];omega) | (simp;omega))
  clear e1
  go_wp2_with fail
  refine (rcheck_yes (qs q) _ (HG.out.ext HX1.out) ((HQ.out.mono (by decide):QB 200 q).len (by decide)) (rq_qs (HQ.out.mono (by decide)))).mono ?_;rintro e w2 ⟨rfl,e2⟩
  have HX2:Hid (Ext w w2):=Lib.hid (HX1.out.trans e2)
  have HB0_2:=Lib.hid (Blk.ext HB0_1.out e2)
  have HB1_2:=Lib.hid (Blk.ext HB1_1.out e2)
  clear e2
  go_wp2_with fail
  refine wp_name (fun W => Ext w W∧Blk W (w.heap.size) #[.string (qs n.x),.string (qs n.y),.string (qs n.z)] 31∧Blk W (w.heap.size + 1) #[.int .i64 0,.int .i64 0,.int .i64 0,.int .i64 0] 22) ⟨HX2.out,HB0_2.out,HB1_2.out⟩ ?_
  rintro w3 ⟨e3,bB0_3,bB1_3⟩
  have HX3:=Lib.hid e3;have HB0_3:=Lib.hid bB0_3;have HB1_3:=Lib.hid bB1_3
  clear e3 bB0_3 bB1_3
  refine region_lin_s (X:=w) [⟨w.heap.size + 1,#[.int .i64 0,.int .i64 0,.int .i64 0,.int .i64 0],#[.int .i64 p.w,.int .i64 p.x,.int .i64 p.y,.int .i64 p.z],22⟩] [.val (.string (qs q)),.val (.pointer (some ⟨w.heap.size,0,none⟩)),.val (.string (qs n.x)),.val (.string (qs (q * n.x))),.val (.string (qs q)),.val (.pointer (some ⟨w.heap.size,1,none⟩)),.val (.string (qs n.y)),.val (.string (qs (q * n.y))),.val (.string (qs q)),.val (.pointer (some ⟨w.heap.size,2,none⟩)),.val (.string (qs n.z)),.val (.string (qs (q * n.z))),.val (.agg #[.string ⟨#[49]⟩,.string (qs (q * n.x)),.string (qs (q * n.y)),.string (qs (q * n.z))]),.val (.tuple #[.agg #[.int .i64 p.w,.int .i64 p.x,.int .i64 p.y,.int .i64 p.z],.int .i64 0]),.val (.agg #[.int .i64 p.w,.int .i64 p.x,.int .i64 p.y,.int .i64 p.z]),.val (.int .i64 0),.st 0,.val (.int .i64 0)] (by kernel_rfl) (by kernel_rfl) (by kernel_rfl) HX3.out.drew (List.forall_mem_cons.2 ⟨⟨HGEB1.out,HB1_3.out.drew⟩,(fun _ h => by cases h)⟩) dis1 ?_ (fun g3 w4 hx_ hk_ hb_ hm_ hne_ => ?_)
  · skip
    refine RnL.cons (fun g3 A_ W_ hs_ => ?_) ?_
    · have q1_:=(hs_.old 1 (by kernel_rfl):A_.tmps[1]?.getD undef = .string (qs q))
      refine Rn.val fun K_ hK_ => ?_
      go_simp
      exact hK_.out _ (Ext.refl _)
    refine RnL.cons (fun g3 A_ W_ hs_ => ?_) ?_
    · have q2_:=(hs_.old 2 (by kernel_rfl):A_.tmps[2]?.getD undef = .pointer (some ⟨w.heap.size,0,none⟩))
      refine Rn.val fun K_ hK_ => ?_
      go_simp
      exact hK_.out _ (Ext.refl _)
    refine RnL.cons (fun g3 A_ W_ hs_ => ?_) ?_
    · have q21_:=hs_.val 1 rfl rfl rfl
      have cB0_0:=((hs_.keep (fm2 (show w.heap.size + 1 ≠ w.heap.size from by first | omega | (simp only [];omega) | (simp;omega)) fm0) HB0_3.out.drew)).cell 0 rfl
      refine Rn.val fun K_ hK_ => ?_
      go_simp
      exact hK_.out _ (Ext.refl _)
    refine RnL.cons (fun g3 A_ W_ hs_ => ?_) ?_
    · have q20_:=hs_.val 0 rfl rfl rfl
      have q22_:=hs_.val 2 rfl rfl rfl
      refine Rn.val fun K_ hK_ => ?_
      go_simp
      refine (rmul_c q n.x _ (HG.out.ext hs_.1) HQ.out HN.out.x (by decide) (by decide)).mono ?_;rintro e W9_ ⟨rfl,e9_⟩;exact hK_.out _ e9_
    refine RnL.cons (fun g3 A_ W_ hs_ => ?_) ?_
    · have q1_:=(hs_.old 1 (by kernel_rfl):A_.tmps[1]?.getD undef = .string (qs q))
      refine Rn.val fun K_ hK_ => ?_
      go_simp
      exact hK_.out _ (Ext.refl _)
    refine RnL.cons (fun g3 A_ W_ hs_ => ?_) ?_
    · have q2_:=(hs_.old 2 (by kernel_rfl):A_.tmps[2]?.getD undef = .pointer (some ⟨w.heap.size,0,none⟩))
      refine Rn.val fun K_ hK_ => ?_
      go_simp
      exact hK_.out _ (Ext.refl _)
    refine RnL.cons (fun g3 A_ W_ hs_ => ?_) ?_
    · have q25_:=hs_.val 5 rfl rfl rfl
      have cB0_1:=((hs_.keep (fm2 (show w.heap.size + 1 ≠ w.heap.size from by first | omega | (simp only [];omega) | (simp;omega)) fm0) HB0_3.out.drew)).cell 1 rfl
      refine Rn.val fun K_ hK_ => ?_
      go_simp
      exact hK_.out _ (Ext.refl _)
    refine RnL.cons (fun g3 A_ W_ hs_ => ?_) ?_
    · have q24_:=hs_.val 4 rfl rfl rfl
      have q26_:=hs_.val 6 rfl rfl rfl
      refine Rn.val fun K_ hK_ => ?_
      go_simp
      refine (rmul_c q n.y _ (HG.out.ext hs_.1) HQ.out HN.out.y (by decide) (by decide)).mono ?_;rintro e W9_ ⟨rfl,e9_⟩;exact hK_.out _ e9_
    refine RnL.cons (fun g3 A_ W_ hs_ => ?_) ?_
    · have q1_:=(hs_.old 1 (by kernel_rfl):A_.tmps[1]?.getD undef = .string (qs q))
      refine Rn.val fun K_ hK_ => ?_
      go_simp
      exact hK_.out _ (Ext.refl _)
    refine RnL.cons (fun g3 A_ W_ hs_ => ?_) ?_
    · have q2_:=(hs_.old 2 (by kernel_rfl):A_.tmps[2]?.getD undef = .pointer (some ⟨w.heap.size,0,none⟩))
      refine Rn.val fun K_ hK_ => ?_
      go_simp
      exact hK_.out _ (Ext.refl _)
    refine RnL.cons (fun g3 A_ W_ hs_ => ?_) ?_
    · have q29_:=hs_.val 9 rfl rfl rfl
      have cB0_2:=((hs_.keep (fm2 (show w.heap.size + 1 ≠ w.heap.size from by first | omega | (simp only [];omega) | (simp;omega)) fm0) HB0_3.out.drew)).cell 2 rfl
      refine Rn.val fun K_ hK_ => ?_
      go_simp
      exact hK_.out _ (Ext.refl _)
    refine RnL.cons (fun g3 A_ W_ hs_ => ?_) ?_
    · have q28_:=hs_.val 8 rfl rfl rfl
      have q30_:=hs_.val 10 rfl rfl rfl
      refine Rn.val fun K_ hK_ => ?_
      go_simp
      refine (rmul_c q n.z _ (HG.out.ext hs_.1) HQ.out HN.out.z (by decide) (by decide)).mono ?_;rintro e W9_ ⟨rfl,e9_⟩;exact hK_.out _ e9_
    refine RnL.cons (fun g3 A_ W_ hs_ => ?_) ?_
    · have q23_:=hs_.val 3 rfl rfl rfl
      have q27_:=hs_.val 7 rfl rfl rfl
      have q31_:=hs_.val 11 rfl rfl rfl
      refine Rn.val fun K_ hK_ => ?_
      go_simp
      exact hK_.out _ (Ext.refl _)
    refine RnL.cons (fun g3 A_ W_ hs_ => ?_) ?_
    · have q32_:=hs_.val 12 rfl rfl rfl
      refine Rn.val fun K_ hK_ => ?_
      go_simp
      refine (rwhole1_in (q * n.x) (q * n.y) (q * n.z) N p _ (HG.out.ext hs_.1) ((HQ.out.mul HN.out.x).mono (by decide)) ((HQ.out.mul HN.out.y).mono (by decide)) ((HQ.out.mul HN.out.z).mono (by decide)) HNE.out HZ.out HP.out HPI.out).mono ?_;rintro e W9_ ⟨rfl,e9_⟩;exact hK_.out _ e9_
    refine RnL.cons (fun g3 A_ W_ hs_ => ?_) ?_
    · have q33_:=hs_.val 13 rfl rfl rfl
      refine Rn.val fun K_ hK_ => ?_
      go_simp
      exact hK_.out _ (Ext.refl _)
    refine RnL.cons (fun g3 A_ W_ hs_ => ?_) ?_
    · have q33_:=hs_.val 13 rfl rfl rfl
      refine Rn.val fun K_ hK_ => ?_
      go_simp
      exact hK_.out _ (Ext.refl _)
    refine RnL.cons (fun g3 A_ W_ hs_ => ?_) ?_
    · have q4_:=(hs_.old 4 (by kernel_rfl):A_.tmps[4]?.getD undef = .pointer (some ⟨w.heap.size + 1,0,none⟩))
      have q34_:=hs_.val 14 rfl rfl rfl
      refine Rn.st (n:=0) rfl fun hB0 K_ hK_ => ?_
      have hB:Blk W_ (w.heap.size + 1) #[.int .i64 0,.int .i64 0,.int .i64 0,.int .i64 0] 22:=hB0;clear hB0
      have c_0:=hB.cell 0 rfl;have f_0:=hB.free 0
      have c_1:=hB.cell 1 rfl;have f_1:=hB.free 1
      have c_2:=hB.cell 2 rfl;have f_2:=hB.free 2
      have c_3:=hB.cell 3 rfl;have f_3:=hB.free 3
      have HB:=Lib.hid hB;clear hB
      go_simp
      exact hK_.out _ (((((Only.refl _ _).set 0 _).set 1 _).set 2 _).set 3 _) ((((HB.out.set 0 _).set 1 _).set 2 _).set 3 _)
    refine RnL.cons (fun g3 A_ W_ hs_ => ?_) ?_
    · have q35_:=hs_.val 15 rfl rfl rfl
      refine Rn.val fun K_ hK_ => ?_
      go_simp
      exact hK_.out _ (Ext.refl _)
    exact RnL.nil
  simp only [fs,Kd.value,puts,Act.put,List.setIfInBounds_toArray,List.set_cons_zero,List.set_cons_succ]
  have HX4:Hid (Ext w w4):=Lib.hid hx_
  have HB1_4:Hid (Blk w4 (w.heap.size + 1) #[.int .i64 p.w,.int .i64 p.x,.int .i64 p.y,.int .i64 p.z] 22):=Lib.hid (hb_ 0 _ rfl)
  clear hx_ hm_ hne_ hk_ hb_
  go_wp2_with fail
  have gB1_0:=HB1_4.out.cell 0 rfl
  have gB1_1:=HB1_4.out.cell 1 rfl
  have gB1_2:=HB1_4.out.cell 2 rfl
  have gB1_3:=HB1_4.out.cell 3 rfl
  refine bodyPost_ret (v:=.tuple #[.agg #[.int .i64 p.w,.int .i64 p.x,.int .i64 p.y,.int .i64 p.z],.int .i64 0]) (by simp [results,Tryz.results14,go_sem,gB1_0,gB1_1,gB1_2,gB1_3]) rfl ⟨rfl,HX4.out⟩

set_option maxRecDepth 100000 in
set_option maxHeartbeats 4000000 in
theorem rar_no (n:V3) (q:Rat) (N p:Q4) (w:World) (g:Gd w) (hn:VB 40 n) (hq:QB 40 q) (hN:num4 1 (q * n.x) (q * n.y) (q * n.z) = N) (hz:¬ N.zero) (hp:prim4 N = p) (hi:¬ Q4In p):Calls Tryz.prog 14 #[.agg #[.string (qs n.x),.string (qs n.y),.string (qs n.z)],.string (qs q)] w (Ret w (.tuple #[.agg #[.int .i64 0,.int .i64 0,.int .i64 0,.int .i64 0],.int .i64 4])):=by
  have HN:=Lib.hid hn
  have HQ:=Lib.hid hq
  have HNE:=Lib.hid hN
  have HZ:=Lib.hid hz
  have HP:=Lib.hid hp
  have HPI:=Lib.hid hi
  have HG:=Lib.hid g
  clear hn hq hN hz hp hi g
  go_enter Tryz.func14,Tryz.ntmps14
  go_wp2_with fail
  refine (vCheck_ok n _ (HG.out.ext (((Ext.refl w).alloc _).alloc _)) (HN.out.mono (by decide))).mono ?_;rintro e w1 ⟨rfl,e1⟩
  have HX1:Hid (Ext w w1):=Lib.hid ((((Ext.refl w).alloc _).alloc _).trans e1)
  have HB0_1:Hid (Blk w1 (w.heap.size) #[.string (qs n.x),.string (qs n.y),.string (qs n.z)] 31):=Lib.hid (Blk.ext ((Blk.new' (w:=_) (cs:=#[.string (qs n.x),.string (qs n.y),.string (qs n.z)]) (t:=31) (by first | rfl | (simp only [World.size_alloc];done) | (simp only [World.size_alloc];omega) | simp)).alloc _) e1)
  have HB1_1:Hid (Blk w1 (w.heap.size + 1) #[.int .i64 0,.int .i64 0,.int .i64 0,.int .i64 0] 22):=Lib.hid (Blk.ext (Blk.new' (w:=_) (cs:=#[.int .i64 0,.int .i64 0,.int .i64 0,.int .i64 0]) (t:=22) (by first | rfl | (simp only [World.size_alloc];done) | (simp only [World.size_alloc];omega) | simp)) e1)
  have HGEB0:Hid (w.heap.size ≤ w.heap.size):=Lib.hid (by first | omega | (simp only [];omega) | (simp;omega))
  have HGEB1:Hid (w.heap.size ≤ w.heap.size + 1):=Lib.hid (by first | omega | (simp only [];omega) | (simp;omega))
  clear e1
  go_wp2_with fail
  refine (rcheck_yes (qs q) _ (HG.out.ext HX1.out) ((HQ.out.mono (by decide):QB 200 q).len (by decide)) (rq_qs (HQ.out.mono (by decide)))).mono ?_;rintro e w2 ⟨rfl,e2⟩
  have HX2:Hid (Ext w w2):=Lib.hid (HX1.out.trans e2)
  have HB0_2:=Lib.hid (Blk.ext HB0_1.out e2)
  have HB1_2:=Lib.hid (Blk.ext HB1_1.out e2)
  clear e2
  go_wp2_with fail
  refine wp_name (fun W => Ext w W∧Blk W (w.heap.size) #[.string (qs n.x),.string (qs n.y),.string (qs n.z)] 31∧Blk W (w.heap.size + 1) #[.int .i64 0,.int .i64 0,.int .i64 0,.int .i64 0] 22) ⟨HX2.out,HB0_2.out,HB1_2.out⟩ ?_
  rintro w3 ⟨e3,bB0_3,bB1_3⟩
  have HX3:=Lib.hid e3;have HB0_3:=Lib.hid bB0_3;have HB1_3:=Lib.hid bB1_3
  clear e3 bB0_3 bB1_3
  refine region_lin_s (X:=w) [⟨w.heap.size + 1,#[.int .i64 0,.int .i64 0,.int .i64 0,.int .i64 0],#[.int .i64 0,.int .i64 0,.int .i64 0,.int .i64 0],22⟩] [.val (.string (qs q)),.val (.pointer (some ⟨w.heap.size,0,none⟩)),.val (.string (qs n.x)),.val (.string (qs (q * n.x))),.val (.string (qs q)),.val (.pointer (some ⟨w.heap.size,1,none⟩)),.val (.string (qs n.y)),.val (.string (qs (q * n.y))),.val (.string (qs q)),.val (.pointer (some ⟨w.heap.size,2,none⟩)),.val (.string (qs n.z)),.val (.string (qs (q * n.z))),.val (.agg #[.string ⟨#[49]⟩,.string (qs (q * n.x)),.string (qs (q * n.y)),.string (qs (q * n.z))]),.val (.tuple #[.agg #[.int .i64 0,.int .i64 0,.int .i64 0,.int .i64 0],.int .i64 4]),.val (.agg #[.int .i64 0,.int .i64 0,.int .i64 0,.int .i64 0]),.val (.int .i64 4),.st 0,.val (.int .i64 4)] (by kernel_rfl) (by kernel_rfl) (by kernel_rfl) HX3.out.drew (List.forall_mem_cons.2 ⟨⟨HGEB1.out,HB1_3.out.drew⟩,(fun _ h => by cases h)⟩) dis1 ?_ (fun g3 w4 hx_ hk_ hb_ hm_ hne_ => ?_)
  · skip
    refine RnL.cons (fun g3 A_ W_ hs_ => ?_) ?_
    · have q1_:=(hs_.old 1 (by kernel_rfl):A_.tmps[1]?.getD undef = .string (qs q))
      refine Rn.val fun K_ hK_ => ?_
      go_simp
      exact hK_.out _ (Ext.refl _)
    refine RnL.cons (fun g3 A_ W_ hs_ => ?_) ?_
    · have q2_:=(hs_.old 2 (by kernel_rfl):A_.tmps[2]?.getD undef = .pointer (some ⟨w.heap.size,0,none⟩))
      refine Rn.val fun K_ hK_ => ?_
      go_simp
      exact hK_.out _ (Ext.refl _)
    refine RnL.cons (fun g3 A_ W_ hs_ => ?_) ?_
    · have q21_:=hs_.val 1 rfl rfl rfl
      have cB0_0:=((hs_.keep (fm2 (show w.heap.size + 1 ≠ w.heap.size from by first | omega | (simp only [];omega) | (simp;omega)) fm0) HB0_3.out.drew)).cell 0 rfl
      refine Rn.val fun K_ hK_ => ?_
      go_simp
      exact hK_.out _ (Ext.refl _)
    refine RnL.cons (fun g3 A_ W_ hs_ => ?_) ?_
    · have q20_:=hs_.val 0 rfl rfl rfl
      have q22_:=hs_.val 2 rfl rfl rfl
      refine Rn.val fun K_ hK_ => ?_
      go_simp
      refine (rmul_c q n.x _ (HG.out.ext hs_.1) HQ.out HN.out.x (by decide) (by decide)).mono ?_;rintro e W9_ ⟨rfl,e9_⟩;exact hK_.out _ e9_
    refine RnL.cons (fun g3 A_ W_ hs_ => ?_) ?_
    · have q1_:=(hs_.old 1 (by kernel_rfl):A_.tmps[1]?.getD undef = .string (qs q))
      refine Rn.val fun K_ hK_ => ?_
      go_simp
      exact hK_.out _ (Ext.refl _)
    refine RnL.cons (fun g3 A_ W_ hs_ => ?_) ?_
    · have q2_:=(hs_.old 2 (by kernel_rfl):A_.tmps[2]?.getD undef = .pointer (some ⟨w.heap.size,0,none⟩))
      refine Rn.val fun K_ hK_ => ?_
      go_simp
      exact hK_.out _ (Ext.refl _)
    refine RnL.cons (fun g3 A_ W_ hs_ => ?_) ?_
    · have q25_:=hs_.val 5 rfl rfl rfl
      have cB0_1:=((hs_.keep (fm2 (show w.heap.size + 1 ≠ w.heap.size from by first | omega | (simp only [];omega) | (simp;omega)) fm0) HB0_3.out.drew)).cell 1 rfl
      refine Rn.val fun K_ hK_ => ?_
      go_simp
      exact hK_.out _ (Ext.refl _)
    refine RnL.cons (fun g3 A_ W_ hs_ => ?_) ?_
    · have q24_:=hs_.val 4 rfl rfl rfl
      have q26_:=hs_.val 6 rfl rfl rfl
      refine Rn.val fun K_ hK_ => ?_
      go_simp
      refine (rmul_c q n.y _ (HG.out.ext hs_.1) HQ.out HN.out.y (by decide) (by decide)).mono ?_;rintro e W9_ ⟨rfl,e9_⟩;exact hK_.out _ e9_
    refine RnL.cons (fun g3 A_ W_ hs_ => ?_) ?_
    · have q1_:=(hs_.old 1 (by kernel_rfl):A_.tmps[1]?.getD undef = .string (qs q))
      refine Rn.val fun K_ hK_ => ?_
      go_simp
      exact hK_.out _ (Ext.refl _)
    refine RnL.cons (fun g3 A_ W_ hs_ => ?_) ?_
    · have q2_:=(hs_.old 2 (by kernel_rfl):A_.tmps[2]?.getD undef = .pointer (some ⟨w.heap.size,0,none⟩))
      refine Rn.val fun K_ hK_ => ?_
      go_simp
      exact hK_.out _ (Ext.refl _)
    refine RnL.cons (fun g3 A_ W_ hs_ => ?_) ?_
    · have q29_:=hs_.val 9 rfl rfl rfl
      have cB0_2:=((hs_.keep (fm2 (show w.heap.size + 1 ≠ w.heap.size from by first | omega | (simp only [];omega) | (simp;omega)) fm0) HB0_3.out.drew)).cell 2 rfl
      refine Rn.val fun K_ hK_ => ?_
      go_simp
      exact hK_.out _ (Ext.refl _)
    refine RnL.cons (fun g3 A_ W_ hs_ => ?_) ?_
    · have q28_:=hs_.val 8 rfl rfl rfl
      have q30_:=hs_.val 10 rfl rfl rfl
      refine Rn.val fun K_ hK_ => ?_
      go_simp
      refine (rmul_c q n.z _ (HG.out.ext hs_.1) HQ.out HN.out.z (by decide) (by decide)).mono ?_;rintro e W9_ ⟨rfl,e9_⟩;exact hK_.out _ e9_
    refine RnL.cons (fun g3 A_ W_ hs_ => ?_) ?_
    · have q23_:=hs_.val 3 rfl rfl rfl
      have q27_:=hs_.val 7 rfl rfl rfl
      have q31_:=hs_.val 11 rfl rfl rfl
      refine Rn.val fun K_ hK_ => ?_
      go_simp
      exact hK_.out _ (Ext.refl _)
    refine RnL.cons (fun g3 A_ W_ hs_ => ?_) ?_
    · have q32_:=hs_.val 12 rfl rfl rfl
      refine Rn.val fun K_ hK_ => ?_
      go_simp
      refine (rwhole1_no (q * n.x) (q * n.y) (q * n.z) N p _ (HG.out.ext hs_.1) ((HQ.out.mul HN.out.x).mono (by decide)) ((HQ.out.mul HN.out.y).mono (by decide)) ((HQ.out.mul HN.out.z).mono (by decide)) HNE.out HZ.out HP.out HPI.out).mono ?_;rintro e W9_ ⟨rfl,e9_⟩;exact hK_.out _ e9_
    refine RnL.cons (fun g3 A_ W_ hs_ => ?_) ?_
    · have q33_:=hs_.val 13 rfl rfl rfl
      refine Rn.val fun K_ hK_ => ?_
      go_simp
      exact hK_.out _ (Ext.refl _)
    refine RnL.cons (fun g3 A_ W_ hs_ => ?_) ?_
    · have q33_:=hs_.val 13 rfl rfl rfl
      refine Rn.val fun K_ hK_ => ?_
      go_simp
      exact hK_.out _ (Ext.refl _)
    refine RnL.cons (fun g3 A_ W_ hs_ => ?_) ?_
    · have q4_:=(hs_.old 4 (by kernel_rfl):A_.tmps[4]?.getD undef = .pointer (some ⟨w.heap.size + 1,0,none⟩))
      have q34_:=hs_.val 14 rfl rfl rfl
      refine Rn.st (n:=0) rfl fun hB0 K_ hK_ => ?_
      have hB:Blk W_ (w.heap.size + 1) #[.int .i64 0,.int .i64 0,.int .i64 0,.int .i64 0] 22:=hB0;clear hB0
      have c_0:=hB.cell 0 rfl;have f_0:=hB.free 0
      have c_1:=hB.cell 1 rfl;have f_1:=hB.free 1
      have c_2:=hB.cell 2 rfl;have f_2:=hB.free 2
      have c_3:=hB.cell 3 rfl;have f_3:=hB.free 3
      have HB:=Lib.hid hB;clear hB
      go_simp
      exact hK_.out _ (((((Only.refl _ _).set 0 _).set 1 _).set 2 _).set 3 _) ((((HB.out.set 0 _).set 1 _).set 2 _).set 3 _)
    refine RnL.cons (fun g3 A_ W_ hs_ => ?_) ?_
    · have q35_:=hs_.val 15 rfl rfl rfl
      refine Rn.val fun K_ hK_ => ?_
      go_simp
      exact hK_.out _ (Ext.refl _)
    exact RnL.nil
  simp only [fs,Kd.value,puts,Act.put,List.setIfInBounds_toArray,List.set_cons_zero,List.set_cons_succ]
  have HX4:Hid (Ext w w4):=Lib.hid hx_
  have HB1_4:Hid (Blk w4 (w.heap.size + 1) #[.int .i64 0,.int .i64 0,.int .i64 0,.int .i64 0] 22):=Lib.hid (hb_ 0 _ rfl)
  clear hx_ hm_ hne_ hk_ hb_
  go_wp2_with fail
  have gB1_0:=HB1_4.out.cell 0 rfl
  have gB1_1:=HB1_4.out.cell 1 rfl
  have gB1_2:=HB1_4.out.cell 2 rfl
  have gB1_3:=HB1_4.out.cell 3 rfl
  refine bodyPost_ret (v:=.tuple #[.agg #[.int .i64 0,.int .i64 0,.int .i64 0,.int .i64 0],.int .i64 4]) (by simp [results,Tryz.results14,go_sem,gB1_0,gB1_1,gB1_2,gB1_3]) rfl ⟨rfl,HX4.out⟩

set_option maxRecDepth 100000 in
set_option maxHeartbeats 2000000 in
theorem sofm_c (a b c:Int) (w:World) (g:Gd w) (ha:-1000000 ≤ a∧a ≤ 1000000) (hb:-1000000 ≤ b∧b ≤ 1000000) (hc:-1000000 ≤ c∧c ≤ 1000000):Calls Tryz.prog 20 #[.int .i64 a,.int .i64 b,.int .i64 c] w (Ret w (.agg #[.string (qs (a:Rat)),.string (qs (b:Rat)),.string (qs (c:Rat))])):=by
  have Ha:=Lib.hid ha
  have Hb:=Lib.hid hb
  have Hc:=Lib.hid hc
  have HG:=Lib.hid g
  clear ha hb hc g
  go_enter Tryz.func20,Tryz.ntmps20
  go_wp2_with fail
  refine (fqof1_c a _ (HG.out.ext ((Ext.refl w).alloc _)) (by have:=Ha.out;omega) (by have:=Ha.out;omega)).mono ?_;rintro e w1 ⟨rfl,e1⟩
  have HX1:Hid (Ext w w1):=Lib.hid (((Ext.refl w).alloc _).trans e1)
  have HB0_1:Hid (Blk w1 (w.heap.size) #[.string ⟨#[]⟩,.string ⟨#[]⟩,.string ⟨#[]⟩] 31):=Lib.hid (Blk.ext (Blk.new' (w:=_) (cs:=#[.string ⟨#[]⟩,.string ⟨#[]⟩,.string ⟨#[]⟩]) (t:=31) (by first | rfl | (simp only [World.size_alloc];done) | (simp only [World.size_alloc];omega) | simp)) e1)
  have HGEB0:Hid (w.heap.size ≤ w.heap.size):=Lib.hid (by first | omega | (simp only [];omega) | (simp;omega))
  clear e1
  go_wp2_with fail
  refine (fqof1_c b _ (HG.out.ext HX1.out) (by have:=Hb.out;omega) (by have:=Hb.out;omega)).mono ?_;rintro e w2 ⟨rfl,e2⟩
  have HX2:Hid (Ext w w2):=Lib.hid (HX1.out.trans e2)
  have HB0_2:=Lib.hid (Blk.ext HB0_1.out e2)
  clear e2
  go_wp2_with fail
  refine (fqof1_c c _ (HG.out.ext HX2.out) (by have:=Hc.out;omega) (by have:=Hc.out;omega)).mono ?_;rintro e w3 ⟨rfl,e3⟩
  have HX3:Hid (Ext w w3):=Lib.hid (HX2.out.trans e3)
  have HB0_3:=Lib.hid (Blk.ext HB0_2.out e3)
  clear e3
  have c0_0:=HB0_3.out.cell 0 rfl
  have f0_0:=HB0_3.out.free 0
  have c0_1:=HB0_3.out.cell 1 rfl
  have f0_1:=HB0_3.out.free 1
  have c0_2:=HB0_3.out.cell 2 rfl
  have f0_2:=HB0_3.out.free 2
  go_wp2_with fail
  refine wp_name (fun W => Ext w W∧Blk W (w.heap.size) #[.string (qs (a:Rat)),.string (qs (b:Rat)),.string (qs (c:Rat))] 31) ⟨(((HX3.out.setCell (by have:=HGEB0.out;first | omega | (simp only [];omega) | (simp;omega)) _).setCell (by have:=HGEB0.out;first | omega | (simp only [];omega) | (simp;omega)) _).setCell (by have:=HGEB0.out;first | omega | (simp only [];omega) | (simp;omega)) _),(((HB0_3.out.set 0 (.string (qs (a:Rat)))).set 1 (.string (qs (b:Rat)))).set 2 (.string (qs (c:Rat))))⟩ ?_
  rintro w4 ⟨e4,bB0_4⟩
  have HX4:=Lib.hid e4;have HB0_4:=Lib.hid bB0_4
  clear e4 bB0_4 c0_0 f0_0 c0_1 f0_1 c0_2 f0_2
  have gB0_0:=HB0_4.out.cell 0 rfl
  have gB0_1:=HB0_4.out.cell 1 rfl
  have gB0_2:=HB0_4.out.cell 2 rfl
  refine bodyPost_ret (v:=.agg #[.string (qs (a:Rat)),.string (qs (b:Rat)),.string (qs (c:Rat))]) (by simp [results,Tryz.results20,go_sem,gB0_0,gB0_1,gB0_2]) rfl ⟨rfl,HX4.out⟩

theorem sofm_as (a b c:Int) (A:V3) (e:iv a b c = A) (w:World) (g:Gd w) (ha:-1000000 ≤ a∧a ≤ 1000000) (hb:-1000000 ≤ b∧b ≤ 1000000) (hc:-1000000 ≤ c∧c ≤ 1000000):Calls Tryz.prog 20 #[.int .i64 a,.int .i64 b,.int .i64 c] w (Ret w (.agg #[.string (qs A.x),.string (qs A.y),.string (qs A.z)])):=by
  subst e;exact sofm_c a b c w g ha hb hc
def scl (a:V3) (k:Rat):V3:=⟨a.x * k,a.y * k,a.z * k⟩
theorem sscale_as (a:V3) (k:Rat) (r:V3) (e:scl a k = r) {m l:Nat} (w:World) (g:Gd w) (ha:VB m a) (hk:QB l k) (hm:m ≤ 500) (hl:l ≤ 500):Calls Tryz.prog 17 #[.agg #[.string (qs a.x),.string (qs a.y),.string (qs a.z)],.string (qs k)] w (Ret w (.agg #[.string (qs r.x),.string (qs r.y),.string (qs r.z)])):=by
  subst e;exact sscale_x a k w g ha hk (by omega) (by omega)
theorem size_pos (q:Rat):1 ≤ (qs q).size:=by
  rw [qs_size]
  by_cases hd:q.den = 1
  · rw [ql_one hd];exact List.length_pos_iff.2 (zl_ne _)
  · rw [ql_frac hd,List.length_append,List.length_cons];omega
theorem size_one {q:Rat} (h:(qs q).size ≤ 1):∃ n:Int,q = (n:Rat)∧n.natAbs ≤ 9:=by
  have hb:=qb_of_size h
  have hd:q.den = 1:=by
    by_cases hd:q.den = 1
    · exact hd
    · exfalso
      rw [qs_size,ql_frac hd,List.length_append,List.length_cons] at h
      have:=List.length_pos_iff.2 (zl_ne q.num)
      omega
  refine ⟨q.num,?_,?_⟩
  · apply Rat.ext
    · rw [Rat.num_intCast]
    · rw [Rat.den_intCast];exact hd
  · have:=hb.num;omega
theorem small_in {n:V3} {q:Rat} (hx:(qs n.x).size ≤ 1) (hy:(qs n.y).size ≤ 1) (hz:(qs n.z).size ≤ 1) (hq:(qs q).size ≤ 1):Q4In (prim4 (num4 1 (q * n.x) (q * n.y) (q * n.z))):=by
  obtain ⟨a,ea,ha⟩:=size_one hx;obtain ⟨b,eb,hb⟩:=size_one hy;obtain ⟨c,ec,hc⟩:=size_one hz;obtain ⟨k,ek,hk⟩:=size_one hq
  rw [ea,eb,ec,ek,← Rat.intCast_mul,← Rat.intCast_mul,← Rat.intCast_mul]
  have hD:den4 1 ((k * a:Int):Rat) ((k * b:Int):Rat) ((k * c:Int):Rat) = 1:=den4_ints (Rat.den_intCast _) (Rat.den_intCast _) (Rat.den_intCast _)
  have p:∀ {x:Int},x.natAbs ≤ 9 → -1000000 ≤ k * x∧k * x ≤ 1000000:=fun {x} h => by
    have:(k * x).natAbs ≤ 9 * 9:=by rw [Int.natAbs_mul];exact Nat.mul_le_mul hk h
    omega
  apply prim4_in
  unfold num4
  rw [hD]
  have e1:∀ x:Int,((x:Rat) * ((1:Int):Rat)).num = x:=fun x => by
    rw [show ((1:Int):Rat) = 1 from rfl,Rat.mul_one,Rat.num_intCast]
  refine ⟨?_,?_,?_,?_⟩
  · have e0:((1:Rat) * ((1:Int):Rat)).num = 1:=by rw [show ((1:Int):Rat) = 1 from rfl,Rat.mul_one];rfl
    show -1000000 ≤ ((1:Rat) * ((1:Int):Rat)).num∧((1:Rat) * ((1:Int):Rat)).num ≤ 1000000
    rw [e0];decide
  · simp only [e1];exact p ha
  · simp only [e1];exact p hb
  · simp only [e1];exact p hc
theorem limit_len {n:V3} {q:Rat} {N p:Q4} (hN:num4 1 (q * n.x) (q * n.y) (q * n.z) = N) (hp:prim4 N = p) (h:¬ Q4In p):6 < (qs n.x).size + (qs n.y).size + (qs n.z).size + 3 * (qs q).size:=by
  have h1:=size_pos n.x;have h2:=size_pos n.y;have h3:=size_pos n.z;have h4:=size_pos q
  rcases Nat.lt_or_ge 6 ((qs n.x).size + (qs n.y).size + (qs n.z).size + 3 * (qs q).size) with hc | hc
  · exact hc
  · exact absurd (by rw [← hp,← hN];exact small_in (by omega) (by omega) (by omega) (by omega)) h
theorem around_scl {n S:V3} {q:Rat} {N p:Q4} {A:V3} (hS:scl n q = S) (hN:num4 1 (q * n.x) (q * n.y) (q * n.z) = N) (hp:prim4 N = p) (hA:iv p.x p.y p.z = A):scl S (p.w:Rat) = A:=by
  have hz:=around_nz (q * n.x) (q * n.y) (q * n.z)
  have h:=around_prop hz
  rw [hN,hp] at h
  rw [← hA,← hS]
  unfold scl iv
  simp only [V3.mk.injEq]
  refine ⟨?_,?_,?_⟩
  · rw [← h.1,Rat.mul_comm n.x q]
  · rw [← h.2.1,Rat.mul_comm n.y q]
  · rw [← h.2.2,Rat.mul_comm n.z q]

set_option maxRecDepth 100000 in
set_option maxHeartbeats 8000000 in
theorem arounds17_L0 (n:T3) (k:ByteArray) (w:World) (g:Gd w) (z0:40 < n.x.size):Calls Tryz.prog 4 #[.agg #[.string n.x,.string n.y,.string n.z],.string k] w (Ret w (.bool true)):=by
  have HG:=Lib.hid g
  clear g
  have zd0:decide ((40:Int) < (n.x.size:Int)) = true:=decide_eq_true (by omega)
  clear z0
  go_enter Tryz.func4,Tryz.ntmps4
  go_wp2_with fail
  refine (known17_c _ (HG.out.ext ((Ext.refl w).alloc _))).mono ?_;rintro e w1 ⟨rfl,e1⟩
  have HX1:Hid (Ext w w1):=Lib.hid (((Ext.refl w).alloc _).trans e1)
  have HB0_1:Hid (Blk w1 (w.heap.size) #[.string n.x,.string n.y,.string n.z] 31):=Lib.hid (Blk.ext (Blk.new' (w:=_) (cs:=#[.string n.x,.string n.y,.string n.z]) (t:=31) (by first | rfl | (simp only [World.size_alloc];done) | (simp only [World.size_alloc];omega) | simp)) e1)
  have HGEB0:Hid (w.heap.size ≤ w.heap.size):=Lib.hid (by first | omega | (simp only [];omega) | (simp;omega))
  clear e1
  have c0_0:=HB0_1.out.cell 0 rfl
  go_wp2_with fail
  refine (known17_c _ (HG.out.ext HX1.out)).mono ?_;rintro e w2 ⟨rfl,e2⟩
  have HX2:Hid (Ext w w2):=Lib.hid (HX1.out.trans e2)
  clear e2 c0_0
  go_wp2
  go_ret
  exact ⟨rfl,HX2.out⟩

set_option maxRecDepth 100000 in
set_option maxHeartbeats 8000000 in
theorem arounds17_L1 (n:T3) (k:ByteArray) (w:World) (g:Gd w) (z0:¬ 40 < n.x.size) (z1:40 < n.y.size):Calls Tryz.prog 4 #[.agg #[.string n.x,.string n.y,.string n.z],.string k] w (Ret w (.bool true)):=by
  have HG:=Lib.hid g
  clear g
  have zd0:decide ((40:Int) < (n.x.size:Int)) = false:=decide_eq_false (by omega)
  have zd1:decide ((40:Int) < (n.y.size:Int)) = true:=decide_eq_true (by omega)
  clear z0 z1
  go_enter Tryz.func4,Tryz.ntmps4
  go_wp2_with fail
  refine (known17_c _ (HG.out.ext ((Ext.refl w).alloc _))).mono ?_;rintro e w1 ⟨rfl,e1⟩
  have HX1:Hid (Ext w w1):=Lib.hid (((Ext.refl w).alloc _).trans e1)
  have HB0_1:Hid (Blk w1 (w.heap.size) #[.string n.x,.string n.y,.string n.z] 31):=Lib.hid (Blk.ext (Blk.new' (w:=_) (cs:=#[.string n.x,.string n.y,.string n.z]) (t:=31) (by first | rfl | (simp only [World.size_alloc];done) | (simp only [World.size_alloc];omega) | simp)) e1)
  have HGEB0:Hid (w.heap.size ≤ w.heap.size):=Lib.hid (by first | omega | (simp only [];omega) | (simp;omega))
  clear e1
  have c0_0:=HB0_1.out.cell 0 rfl
  have c0_1:=HB0_1.out.cell 1 rfl
  go_wp2_with fail
  refine (known17_c _ (HG.out.ext HX1.out)).mono ?_;rintro e w2 ⟨rfl,e2⟩
  have HX2:Hid (Ext w w2):=Lib.hid (HX1.out.trans e2)
  clear e2 c0_0 c0_1
  go_wp2
  go_ret
  exact ⟨rfl,HX2.out⟩

set_option maxRecDepth 100000 in
set_option maxHeartbeats 8000000 in
theorem arounds17_L2 (n:T3) (k:ByteArray) (w:World) (g:Gd w) (z0:¬ 40 < n.x.size) (z1:¬ 40 < n.y.size) (z2:40 < n.z.size):Calls Tryz.prog 4 #[.agg #[.string n.x,.string n.y,.string n.z],.string k] w (Ret w (.bool true)):=by
  have HG:=Lib.hid g
  clear g
  have zd0:decide ((40:Int) < (n.x.size:Int)) = false:=decide_eq_false (by omega)
  have zd1:decide ((40:Int) < (n.y.size:Int)) = false:=decide_eq_false (by omega)
  have zd2:decide ((40:Int) < (n.z.size:Int)) = true:=decide_eq_true (by omega)
  clear z0 z1 z2
  go_enter Tryz.func4,Tryz.ntmps4
  go_wp2_with fail
  refine (known17_c _ (HG.out.ext ((Ext.refl w).alloc _))).mono ?_;rintro e w1 ⟨rfl,e1⟩
  have HX1:Hid (Ext w w1):=Lib.hid (((Ext.refl w).alloc _).trans e1)
  have HB0_1:Hid (Blk w1 (w.heap.size) #[.string n.x,.string n.y,.string n.z] 31):=Lib.hid (Blk.ext (Blk.new' (w:=_) (cs:=#[.string n.x,.string n.y,.string n.z]) (t:=31) (by first | rfl | (simp only [World.size_alloc];done) | (simp only [World.size_alloc];omega) | simp)) e1)
  have HGEB0:Hid (w.heap.size ≤ w.heap.size):=Lib.hid (by first | omega | (simp only [];omega) | (simp;omega))
  clear e1
  have c0_0:=HB0_1.out.cell 0 rfl
  have c0_1:=HB0_1.out.cell 1 rfl
  have c0_2:=HB0_1.out.cell 2 rfl
  go_wp2_with fail
  refine (known17_c _ (HG.out.ext HX1.out)).mono ?_;rintro e w2 ⟨rfl,e2⟩
  have HX2:Hid (Ext w w2):=Lib.hid (HX1.out.trans e2)
  clear e2 c0_0 c0_1 c0_2
  go_wp2
  go_ret
  exact ⟨rfl,HX2.out⟩

set_option maxRecDepth 100000 in
set_option maxHeartbeats 8000000 in
theorem arounds17_L3 (n:T3) (k:ByteArray) (w:World) (g:Gd w) (z0:¬ 40 < n.x.size) (z1:¬ 40 < n.y.size) (z2:¬ 40 < n.z.size) (z3:40 < k.size):Calls Tryz.prog 4 #[.agg #[.string n.x,.string n.y,.string n.z],.string k] w (Ret w (.bool true)):=by
  have HG:=Lib.hid g
  clear g
  have zd0:decide ((40:Int) < (n.x.size:Int)) = false:=decide_eq_false (by omega)
  have zd1:decide ((40:Int) < (n.y.size:Int)) = false:=decide_eq_false (by omega)
  have zd2:decide ((40:Int) < (n.z.size:Int)) = false:=decide_eq_false (by omega)
  have zd3:decide ((40:Int) < (k.size:Int)) = true:=decide_eq_true (by omega)
  clear z0 z1 z2 z3
  go_enter Tryz.func4,Tryz.ntmps4
  go_wp2_with fail
  refine (known17_c _ (HG.out.ext ((Ext.refl w).alloc _))).mono ?_;rintro e w1 ⟨rfl,e1⟩
  have HX1:Hid (Ext w w1):=Lib.hid (((Ext.refl w).alloc _).trans e1)
  have HB0_1:Hid (Blk w1 (w.heap.size) #[.string n.x,.string n.y,.string n.z] 31):=Lib.hid (Blk.ext (Blk.new' (w:=_) (cs:=#[.string n.x,.string n.y,.string n.z]) (t:=31) (by first | rfl | (simp only [World.size_alloc];done) | (simp only [World.size_alloc];omega) | simp)) e1)
  have HGEB0:Hid (w.heap.size ≤ w.heap.size):=Lib.hid (by first | omega | (simp only [];omega) | (simp;omega))
  clear e1
  have c0_0:=HB0_1.out.cell 0 rfl
  have c0_1:=HB0_1.out.cell 1 rfl
  have c0_2:=HB0_1.out.cell 2 rfl
  go_wp2_with fail
  refine (known17_c _ (HG.out.ext HX1.out)).mono ?_;rintro e w2 ⟨rfl,e2⟩
  have HX2:Hid (Ext w w2):=Lib.hid (HX1.out.trans e2)
  clear e2 c0_0 c0_1 c0_2
  go_wp2
  go_ret
  exact ⟨rfl,HX2.out⟩

set_option maxRecDepth 100000 in
set_option maxHeartbeats 8000000 in
theorem arounds17_E (n:T3) (k:ByteArray) (w:World) (g:Gd w) (z0:¬ 40 < n.x.size) (z1:¬ 40 < n.y.size) (z2:¬ 40 < n.z.size) (z3:¬ 40 < k.size) (hr:n.l.all rq = false):Calls Tryz.prog 4 #[.agg #[.string n.x,.string n.y,.string n.z],.string k] w (Ret w (.bool true)):=by
  have HR:=Lib.hid hr
  have HG:=Lib.hid g
  clear hr g
  have zd0:decide ((40:Int) < (n.x.size:Int)) = false:=decide_eq_false (by omega)
  have zd1:decide ((40:Int) < (n.y.size:Int)) = false:=decide_eq_false (by omega)
  have zd2:decide ((40:Int) < (n.z.size:Int)) = false:=decide_eq_false (by omega)
  have zd3:decide ((40:Int) < (k.size:Int)) = false:=decide_eq_false (by omega)
  have HN:Hid (TS n):=Lib.hid ⟨by omega,by omega,by omega⟩
  have HE:Hid (terr n.l = 2):=Lib.hid (terr_2 HR.out)
  clear z0 z1 z2 z3
  have eqa0:=eq4 0 0 0 0 0 0 0 0
  go_enter Tryz.func4,Tryz.ntmps4
  go_wp2_with fail
  refine (known17_c _ (HG.out.ext ((Ext.refl w).alloc _))).mono ?_;rintro e w1 ⟨rfl,e1⟩
  have HX1:Hid (Ext w w1):=Lib.hid (((Ext.refl w).alloc _).trans e1)
  have HB0_1:Hid (Blk w1 (w.heap.size) #[.string n.x,.string n.y,.string n.z] 31):=Lib.hid (Blk.ext (Blk.new' (w:=_) (cs:=#[.string n.x,.string n.y,.string n.z]) (t:=31) (by first | rfl | (simp only [World.size_alloc];done) | (simp only [World.size_alloc];omega) | simp)) e1)
  have HGEB0:Hid (w.heap.size ≤ w.heap.size):=Lib.hid (by first | omega | (simp only [];omega) | (simp;omega))
  clear e1
  have c0_0:=HB0_1.out.cell 0 rfl
  have c0_1:=HB0_1.out.cell 1 rfl
  have c0_2:=HB0_1.out.cell 2 rfl
  go_wp2_with fail
  refine (rar_v n k _ (HG.out.ext HX1.out) HN.out HE.out).mono ?_;rintro e w2 ⟨rfl,e2⟩
  have HX2:Hid (Ext w w2):=Lib.hid (HX1.out.trans e2)
  have HB0_2:=Lib.hid (Blk.ext HB0_1.out e2)
  clear e2 c0_0 c0_1 c0_2
  go_upto_region 4 with fail
  refine wp_name (fun W => Ext w W∧Blk W (w.heap.size) #[.string n.x,.string n.y,.string n.z] 31∧Blk W (w2.heap.size) #[.int .i64 0,.int .i64 0,.int .i64 0,.int .i64 0] 22) ⟨(HX2.out.alloc _),(HB0_2.out.alloc _),(Blk.new' (w:=_) (cs:=#[.int .i64 0,.int .i64 0,.int .i64 0,.int .i64 0]) (t:=22) (by first | rfl | (simp only [World.size_alloc];done) | (simp only [World.size_alloc];omega) | simp))⟩ ?_
  rintro w3 ⟨e3,bB0_3,bB1_3⟩
  have HX3:=Lib.hid e3;have HB0_3:=Lib.hid bB0_3;have HB1_3:=Lib.hid bB1_3
  have HGEB1:Hid (w.heap.size ≤ w2.heap.size):=Lib.hid (by have:=HX2.out.size;first | omega | (simp only [];omega) | (simp;omega))
  clear e3 bB0_3 bB1_3
  have c0_0:=HB0_3.out.cell 0 rfl
  have c0_1:=HB0_3.out.cell 1 rfl
  have c0_2:=HB0_3.out.cell 2 rfl
  go_wp2_with fail
  refine ((HR.out ▸ sright_c n _ (HG.out.ext HX3.out) HN.out)).mono ?_;rintro e w4 ⟨rfl,e4⟩
  have HX4:Hid (Ext w w4):=Lib.hid (HX3.out.trans e4)
  have HB1_4:=Lib.hid (Blk.ext HB1_3.out e4)
  clear e4 c0_0 c0_1 c0_2
  have c1_0:=HB1_4.out.cell 0 rfl
  have c1_1:=HB1_4.out.cell 1 rfl
  have c1_2:=HB1_4.out.cell 2 rfl
  have c1_3:=HB1_4.out.cell 3 rfl
  go_wp2
  go_ret
  exact ⟨rfl,HX4.out⟩

set_option maxRecDepth 100000 in
set_option maxHeartbeats 8000000 in
theorem arounds17_K (n:V3) (k:ByteArray) (w:World) (g:Gd w) (z0:¬ 40 < (qs n.x).size) (z1:¬ 40 < (qs n.y).size) (z2:¬ 40 < (qs n.z).size) (z3:¬ 40 < k.size) (hq:rq k = false):Calls Tryz.prog 4 #[.agg #[.string (qs n.x),.string (qs n.y),.string (qs n.z)],.string k] w (Ret w (.bool true)):=by
  have HQ:=Lib.hid hq
  have HG:=Lib.hid g
  clear hq g
  have zd0:decide ((40:Int) < ((qs n.x).size:Int)) = false:=decide_eq_false (by omega)
  have zd1:decide ((40:Int) < ((qs n.y).size:Int)) = false:=decide_eq_false (by omega)
  have zd2:decide ((40:Int) < ((qs n.z).size:Int)) = false:=decide_eq_false (by omega)
  have zd3:decide ((40:Int) < (k.size:Int)) = false:=decide_eq_false (by omega)
  have HN:Hid (VB 40 n):=Lib.hid ⟨qb_of_size (by omega),qb_of_size (by omega),qb_of_size (by omega)⟩
  have HK:Hid (k.size ≤ 1000000):=Lib.hid (by omega)
  clear z0 z1 z2 z3
  have eqa0:=eq4 0 0 0 0 0 0 0 0
  go_enter Tryz.func4,Tryz.ntmps4
  go_wp2_with fail
  refine (known17_c _ (HG.out.ext ((Ext.refl w).alloc _))).mono ?_;rintro e w1 ⟨rfl,e1⟩
  have HX1:Hid (Ext w w1):=Lib.hid (((Ext.refl w).alloc _).trans e1)
  have HB0_1:Hid (Blk w1 (w.heap.size) #[.string (qs n.x),.string (qs n.y),.string (qs n.z)] 31):=Lib.hid (Blk.ext (Blk.new' (w:=_) (cs:=#[.string (qs n.x),.string (qs n.y),.string (qs n.z)]) (t:=31) (by first | rfl | (simp only [World.size_alloc];done) | (simp only [World.size_alloc];omega) | simp)) e1)
  have HGEB0:Hid (w.heap.size ≤ w.heap.size):=Lib.hid (by first | omega | (simp only [];omega) | (simp;omega))
  clear e1
  have c0_0:=HB0_1.out.cell 0 rfl
  have c0_1:=HB0_1.out.cell 1 rfl
  have c0_2:=HB0_1.out.cell 2 rfl
  go_wp2_with fail
  refine (rar_k n k _ (HG.out.ext HX1.out) HN.out HK.out HQ.out).mono ?_;rintro e w2 ⟨rfl,e2⟩
  have HX2:Hid (Ext w w2):=Lib.hid (HX1.out.trans e2)
  have HB0_2:=Lib.hid (Blk.ext HB0_1.out e2)
  clear e2 c0_0 c0_1 c0_2
  go_upto_region 4 with fail
  refine wp_name (fun W => Ext w W∧Blk W (w.heap.size) #[.string (qs n.x),.string (qs n.y),.string (qs n.z)] 31∧Blk W (w2.heap.size) #[.int .i64 0,.int .i64 0,.int .i64 0,.int .i64 0] 22) ⟨(HX2.out.alloc _),(HB0_2.out.alloc _),(Blk.new' (w:=_) (cs:=#[.int .i64 0,.int .i64 0,.int .i64 0,.int .i64 0]) (t:=22) (by first | rfl | (simp only [World.size_alloc];done) | (simp only [World.size_alloc];omega) | simp))⟩ ?_
  rintro w3 ⟨e3,bB0_3,bB1_3⟩
  have HX3:=Lib.hid e3;have HB0_3:=Lib.hid bB0_3;have HB1_3:=Lib.hid bB1_3
  have HGEB1:Hid (w.heap.size ≤ w2.heap.size):=Lib.hid (by have:=HX2.out.size;first | omega | (simp only [];omega) | (simp;omega))
  clear e3 bB0_3 bB1_3
  have c0_0:=HB0_3.out.cell 0 rfl
  have c0_1:=HB0_3.out.cell 1 rfl
  have c0_2:=HB0_3.out.cell 2 rfl
  go_wp2_with fail
  refine (sright_q n _ (HG.out.ext HX3.out) (HN.out.mono (by decide))).mono ?_;rintro e w4 ⟨rfl,e4⟩
  have HX4:Hid (Ext w w4):=Lib.hid (HX3.out.trans e4)
  have HB1_4:=Lib.hid (Blk.ext HB1_3.out e4)
  clear e4 c0_0 c0_1 c0_2
  go_wp2_with fail
  refine (fqright_no k _ (HG.out.ext HX4.out) HK.out HQ.out).mono ?_;rintro e w5 ⟨rfl,e5⟩
  have HX5:Hid (Ext w w5):=Lib.hid (HX4.out.trans e5)
  have HB1_5:=Lib.hid (Blk.ext HB1_4.out e5)
  clear e5
  have c1_0:=HB1_5.out.cell 0 rfl
  have c1_1:=HB1_5.out.cell 1 rfl
  have c1_2:=HB1_5.out.cell 2 rfl
  have c1_3:=HB1_5.out.cell 3 rfl
  go_wp2
  go_ret
  exact ⟨rfl,HX5.out⟩

set_option maxRecDepth 100000 in
set_option maxHeartbeats 16000000 in
theorem arounds17_N (n:V3) (q:Rat) (w:World) (g:Gd w) (z0:¬ 40 < (qs n.x).size) (z1:¬ 40 < (qs n.y).size) (z2:¬ 40 < (qs n.z).size) (z3:¬ 40 < (qs q).size) (hi:¬ Q4In (prim4 (num4 1 (q * n.x) (q * n.y) (q * n.z)))):Calls Tryz.prog 4 #[.agg #[.string (qs n.x),.string (qs n.y),.string (qs n.z)],.string (qs q)] w (Ret w (.bool true)):=by
  have HI0:=Lib.hid hi
  have HG:=Lib.hid g
  clear hi g
  have zd0:decide ((40:Int) < ((qs n.x).size:Int)) = false:=decide_eq_false (by omega)
  have zd1:decide ((40:Int) < ((qs n.y).size:Int)) = false:=decide_eq_false (by omega)
  have zd2:decide ((40:Int) < ((qs n.z).size:Int)) = false:=decide_eq_false (by omega)
  have zd3:decide ((40:Int) < ((qs q).size:Int)) = false:=decide_eq_false (by omega)
  have HN:Hid (VB 40 n):=Lib.hid ⟨qb_of_size (by omega),qb_of_size (by omega),qb_of_size (by omega)⟩
  have HQ:Hid (QB 40 q):=Lib.hid (qb_of_size (by omega))
  obtain ⟨N,eN⟩:∃ x,num4 1 (q * n.x) (q * n.y) (q * n.z) = x:=⟨_,rfl⟩
  have HNE:=Lib.hid eN;clear eN
  have HZ:Hid (¬ N.zero):=Lib.hid (HNE.out ▸ around_nz _ _ _)
  obtain ⟨p,ep⟩:∃ x,prim4 N = x:=⟨_,rfl⟩
  have HpE:=Lib.hid ep;clear ep
  have HPI:Hid (¬ Q4In p):=Lib.hid (by rw [← HpE.out,← HNE.out];exact HI0.out)
  have hl:=limit_len HNE.out HpE.out HPI.out
  have wr0:IntKind.i64.wrap (((qs n.x).size:Int) + ((qs n.y).size:Int)) = ((qs n.x).size:Int) + ((qs n.y).size:Int):=IntWalk.i64_in _ (by omega)
  have wr1:IntKind.i64.wrap (((qs n.x).size:Int) + ((qs n.y).size:Int) + ((qs n.z).size:Int)) = ((qs n.x).size:Int) + ((qs n.y).size:Int) + ((qs n.z).size:Int):=IntWalk.i64_in _ (by omega)
  have wr2:IntKind.i64.wrap (3 * ((qs q).size:Int)) = 3 * ((qs q).size:Int):=IntWalk.i64_in _ (by omega)
  have wr3:IntKind.i64.wrap (((qs n.x).size:Int) + ((qs n.y).size:Int) + ((qs n.z).size:Int) + 3 * ((qs q).size:Int)) = ((qs n.x).size:Int) + ((qs n.y).size:Int) + ((qs n.z).size:Int) + 3 * ((qs q).size:Int):=IntWalk.i64_in _ (by omega)
  have gl_:decide ((6:Int) < ((qs n.x).size:Int) + ((qs n.y).size:Int) + ((qs n.z).size:Int) + 3 * ((qs q).size:Int)) = true:=decide_eq_true (by omega)
  clear hl
  clear z0 z1 z2 z3
  have eqa0:=eq4 0 0 0 0 0 0 0 0
  go_enter Tryz.func4,Tryz.ntmps4
  go_wp2_with fail
  refine (known17_c _ (HG.out.ext ((Ext.refl w).alloc _))).mono ?_;rintro e w1 ⟨rfl,e1⟩
  have HX1:Hid (Ext w w1):=Lib.hid (((Ext.refl w).alloc _).trans e1)
  have HB0_1:Hid (Blk w1 (w.heap.size) #[.string (qs n.x),.string (qs n.y),.string (qs n.z)] 31):=Lib.hid (Blk.ext (Blk.new' (w:=_) (cs:=#[.string (qs n.x),.string (qs n.y),.string (qs n.z)]) (t:=31) (by first | rfl | (simp only [World.size_alloc];done) | (simp only [World.size_alloc];omega) | simp)) e1)
  have HGEB0:Hid (w.heap.size ≤ w.heap.size):=Lib.hid (by first | omega | (simp only [];omega) | (simp;omega))
  clear e1
  have c0_0:=HB0_1.out.cell 0 rfl
  have c0_1:=HB0_1.out.cell 1 rfl
  have c0_2:=HB0_1.out.cell 2 rfl
  go_wp2_with fail
  refine (rar_no n q N p _ (HG.out.ext HX1.out) HN.out HQ.out HNE.out HZ.out HpE.out HPI.out).mono ?_;rintro e w2 ⟨rfl,e2⟩
  have HX2:Hid (Ext w w2):=Lib.hid (HX1.out.trans e2)
  have HB0_2:=Lib.hid (Blk.ext HB0_1.out e2)
  clear e2 c0_0 c0_1 c0_2
  go_upto_region 4 with fail
  refine wp_name (fun W => Ext w W∧Blk W (w.heap.size) #[.string (qs n.x),.string (qs n.y),.string (qs n.z)] 31∧Blk W (w2.heap.size) #[.int .i64 0,.int .i64 0,.int .i64 0,.int .i64 0] 22) ⟨(HX2.out.alloc _),(HB0_2.out.alloc _),(Blk.new' (w:=_) (cs:=#[.int .i64 0,.int .i64 0,.int .i64 0,.int .i64 0]) (t:=22) (by first | rfl | (simp only [World.size_alloc];done) | (simp only [World.size_alloc];omega) | simp))⟩ ?_
  rintro w3 ⟨e3,bB0_3,bB1_3⟩
  have HX3:=Lib.hid e3;have HB0_3:=Lib.hid bB0_3;have HB1_3:=Lib.hid bB1_3
  have HGEB1:Hid (w.heap.size ≤ w2.heap.size):=Lib.hid (by have:=HX2.out.size;first | omega | (simp only [];omega) | (simp;omega))
  clear e3 bB0_3 bB1_3
  have c0_0:=HB0_3.out.cell 0 rfl
  have c0_1:=HB0_3.out.cell 1 rfl
  have c0_2:=HB0_3.out.cell 2 rfl
  go_wp2_with fail
  refine (sright_q n _ (HG.out.ext HX3.out) (HN.out.mono (by decide))).mono ?_;rintro e w4 ⟨rfl,e4⟩
  have HX4:Hid (Ext w w4):=Lib.hid (HX3.out.trans e4)
  have HB0_4:=Lib.hid (Blk.ext HB0_3.out e4)
  have HB1_4:=Lib.hid (Blk.ext HB1_3.out e4)
  clear e4 c0_0 c0_1 c0_2
  go_wp2_with fail
  refine (fqright_yes q _ (HG.out.ext HX4.out) (HQ.out.mono (by decide))).mono ?_;rintro e w5 ⟨rfl,e5⟩
  have HX5:Hid (Ext w w5):=Lib.hid (HX4.out.trans e5)
  have HB0_5:=Lib.hid (Blk.ext HB0_4.out e5)
  have HB1_5:=Lib.hid (Blk.ext HB1_4.out e5)
  clear e5
  have c1_0:=HB1_5.out.cell 0 rfl
  have c1_1:=HB1_5.out.cell 1 rfl
  have c1_2:=HB1_5.out.cell 2 rfl
  have c1_3:=HB1_5.out.cell 3 rfl
  have c0_0:=HB0_5.out.cell 0 rfl
  have c0_1:=HB0_5.out.cell 1 rfl
  have c0_2:=HB0_5.out.cell 2 rfl
  go_wp2
  go_ret
  exact ⟨rfl,HX5.out⟩

set_option maxRecDepth 100000 in
set_option maxHeartbeats 16000000 in
theorem arounds17_Y (n:V3) (q:Rat) (w:World) (g:Gd w) (z0:¬ 40 < (qs n.x).size) (z1:¬ 40 < (qs n.y).size) (z2:¬ 40 < (qs n.z).size) (z3:¬ 40 < (qs q).size) (hi:Q4In (prim4 (num4 1 (q * n.x) (q * n.y) (q * n.z)))):Calls Tryz.prog 4 #[.agg #[.string (qs n.x),.string (qs n.y),.string (qs n.z)],.string (qs q)] w (Ret w (.bool true)):=by
  have HI0:=Lib.hid hi
  have HG:=Lib.hid g
  clear hi g
  have zd0:decide ((40:Int) < ((qs n.x).size:Int)) = false:=decide_eq_false (by omega)
  have zd1:decide ((40:Int) < ((qs n.y).size:Int)) = false:=decide_eq_false (by omega)
  have zd2:decide ((40:Int) < ((qs n.z).size:Int)) = false:=decide_eq_false (by omega)
  have zd3:decide ((40:Int) < ((qs q).size:Int)) = false:=decide_eq_false (by omega)
  have HN:Hid (VB 40 n):=Lib.hid ⟨qb_of_size (by omega),qb_of_size (by omega),qb_of_size (by omega)⟩
  have HQ:Hid (QB 40 q):=Lib.hid (qb_of_size (by omega))
  obtain ⟨N,eN⟩:∃ x,num4 1 (q * n.x) (q * n.y) (q * n.z) = x:=⟨_,rfl⟩
  have HNE:=Lib.hid eN;clear eN
  have HZ:Hid (¬ N.zero):=Lib.hid (HNE.out ▸ around_nz _ _ _)
  obtain ⟨p,ep⟩:∃ x,prim4 N = x:=⟨_,rfl⟩
  have HpE:=Lib.hid ep;clear ep
  have HPI:Hid (Q4In p):=Lib.hid (by rw [← HpE.out,← HNE.out];exact HI0.out)
  have HPZ:Hid (¬ p.zero):=Lib.hid (HpE.out ▸ prim4_nz HZ.out)
  have HPP:Hid (prim4 p = p):=Lib.hid (by rw [← HpE.out];exact prim4_idem HZ.out)
  have hpw:0 < p.w:=by rw [← HpE.out,← HNE.out];exact around_pos _ _ _
  have gw_:decide (0 < p.w) = true:=decide_eq_true hpw
  clear hpw
  obtain ⟨A,eA⟩:∃ x,iv p.x p.y p.z = x:=⟨_,rfl⟩
  have HAE:=Lib.hid eA;clear eA
  obtain ⟨S,eS⟩:∃ x,scl n q = x:=⟨_,rfl⟩
  have HSE:=Lib.hid eS;clear eS
  have HS:Hid (VB 80 S):=Lib.hid (HSE.out ▸ ⟨HN.out.x.mul HQ.out,HN.out.y.mul HQ.out,HN.out.z.mul HQ.out⟩)
  have HA2:Hid (scl S (p.w:Rat) = A):=Lib.hid (around_scl HSE.out HNE.out HpE.out HAE.out)
  have HW:Hid (QB 7 (p.w:Rat)):=Lib.hid (QB.int ⟨by have:=HPI.out.w;omega⟩ (by decide))
  clear z0 z1 z2 z3
  have eqa0:=eq4 p.w p.x p.y p.z p.w p.x p.y p.z
  go_enter Tryz.func4,Tryz.ntmps4
  go_wp2_with fail
  refine (known17_c _ (HG.out.ext ((Ext.refl w).alloc _))).mono ?_;rintro e w1 ⟨rfl,e1⟩
  have HX1:Hid (Ext w w1):=Lib.hid (((Ext.refl w).alloc _).trans e1)
  have HB0_1:Hid (Blk w1 (w.heap.size) #[.string (qs n.x),.string (qs n.y),.string (qs n.z)] 31):=Lib.hid (Blk.ext (Blk.new' (w:=_) (cs:=#[.string (qs n.x),.string (qs n.y),.string (qs n.z)]) (t:=31) (by first | rfl | (simp only [World.size_alloc];done) | (simp only [World.size_alloc];omega) | simp)) e1)
  have HGEB0:Hid (w.heap.size ≤ w.heap.size):=Lib.hid (by first | omega | (simp only [];omega) | (simp;omega))
  clear e1
  have c0_0:=HB0_1.out.cell 0 rfl
  have c0_1:=HB0_1.out.cell 1 rfl
  have c0_2:=HB0_1.out.cell 2 rfl
  go_wp2_with fail
  refine (rar_in n q N p _ (HG.out.ext HX1.out) HN.out HQ.out HNE.out HZ.out HpE.out HPI.out).mono ?_;rintro e w2 ⟨rfl,e2⟩
  have HX2:Hid (Ext w w2):=Lib.hid (HX1.out.trans e2)
  have HB0_2:=Lib.hid (Blk.ext HB0_1.out e2)
  clear e2 c0_0 c0_1 c0_2
  go_upto_region 4 with fail
  refine wp_name (fun W => Ext w W∧Blk W (w.heap.size) #[.string (qs n.x),.string (qs n.y),.string (qs n.z)] 31∧Blk W (w2.heap.size) #[.int .i64 p.w,.int .i64 p.x,.int .i64 p.y,.int .i64 p.z] 22) ⟨(HX2.out.alloc _),(HB0_2.out.alloc _),(Blk.new' (w:=_) (cs:=#[.int .i64 p.w,.int .i64 p.x,.int .i64 p.y,.int .i64 p.z]) (t:=22) (by first | rfl | (simp only [World.size_alloc];done) | (simp only [World.size_alloc];omega) | simp))⟩ ?_
  rintro w3 ⟨e3,bB0_3,bB1_3⟩
  have HX3:=Lib.hid e3;have HB0_3:=Lib.hid bB0_3;have HB1_3:=Lib.hid bB1_3
  have HGEB1:Hid (w.heap.size ≤ w2.heap.size):=Lib.hid (by have:=HX2.out.size;first | omega | (simp only [];omega) | (simp;omega))
  clear e3 bB0_3 bB1_3
  have c0_0:=HB0_3.out.cell 0 rfl
  have c0_1:=HB0_3.out.cell 1 rfl
  have c0_2:=HB0_3.out.cell 2 rfl
  go_wp2_with fail
  refine (sright_q n _ (HG.out.ext HX3.out) (HN.out.mono (by decide))).mono ?_;rintro e w4 ⟨rfl,e4⟩
  have HX4:Hid (Ext w w4):=Lib.hid (HX3.out.trans e4)
  have HB0_4:=Lib.hid (Blk.ext HB0_3.out e4)
  have HB1_4:=Lib.hid (Blk.ext HB1_3.out e4)
  clear e4 c0_0 c0_1 c0_2
  go_wp2_with fail
  refine (fqright_yes q _ (HG.out.ext HX4.out) (HQ.out.mono (by decide))).mono ?_;rintro e w5 ⟨rfl,e5⟩
  have HX5:Hid (Ext w w5):=Lib.hid (HX4.out.trans e5)
  have HB0_5:=Lib.hid (Blk.ext HB0_4.out e5)
  have HB1_5:=Lib.hid (Blk.ext HB1_4.out e5)
  clear e5
  have c0_0:=HB0_5.out.cell 0 rfl
  have c0_1:=HB0_5.out.cell 1 rfl
  have c0_2:=HB0_5.out.cell 2 rfl
  go_wp2_with fail
  refine (sscale_as n q S HSE.out _ (HG.out.ext HX5.out) HN.out HQ.out (by decide) (by decide)).mono ?_;rintro e w6 ⟨rfl,e6⟩
  have HX6:Hid (Ext w w6):=Lib.hid (HX5.out.trans e6)
  have HB1_6:=Lib.hid (Blk.ext HB1_5.out e6)
  clear e6 c0_0 c0_1 c0_2
  go_upto_region 9 with fail
  refine wp_name (fun W => Ext w W∧Blk W (w2.heap.size) #[.int .i64 p.w,.int .i64 p.x,.int .i64 p.y,.int .i64 p.z] 22∧Blk W (w6.heap.size) #[.string (qs S.x),.string (qs S.y),.string (qs S.z)] 31) ⟨(HX6.out.alloc _),(HB1_6.out.alloc _),(Blk.new' (w:=_) (cs:=#[.string (qs S.x),.string (qs S.y),.string (qs S.z)]) (t:=31) (by first | rfl | (simp only [World.size_alloc];done) | (simp only [World.size_alloc];omega) | simp))⟩ ?_
  rintro w7 ⟨e7,bB1_7,bB2_7⟩
  have HX7:=Lib.hid e7;have HB1_7:=Lib.hid bB1_7;have HB2_7:=Lib.hid bB2_7
  have HGEB2:Hid (w.heap.size ≤ w6.heap.size):=Lib.hid (by have:=HX6.out.size;first | omega | (simp only [];omega) | (simp;omega))
  clear e7 bB1_7 bB2_7
  have c1_0:=HB1_7.out.cell 0 rfl
  go_wp2_with fail
  refine (fqof1_c p.w _ (HG.out.ext HX7.out) (by have:=HPI.out.w;omega) (by have:=HPI.out.w;omega)).mono ?_;rintro e w8 ⟨rfl,e8⟩
  have HX8:Hid (Ext w w8):=Lib.hid (HX7.out.trans e8)
  have HB1_8:=Lib.hid (Blk.ext HB1_7.out e8)
  have HB2_8:=Lib.hid (Blk.ext HB2_7.out e8)
  clear e8 c1_0
  go_wp2_with fail
  refine wp_name (fun W => Ext w W∧Blk W (w2.heap.size) #[.int .i64 p.w,.int .i64 p.x,.int .i64 p.y,.int .i64 p.z] 22∧Blk W (w6.heap.size) #[.string (qs S.x),.string (qs S.y),.string (qs S.z)] 31) ⟨HX8.out,HB1_8.out,HB2_8.out⟩ ?_
  rintro w9 ⟨e9,bB1_9,bB2_9⟩
  have HX9:=Lib.hid e9;have HB1_9:=Lib.hid bB1_9;have HB2_9:=Lib.hid bB2_9
  clear e9 bB1_9 bB2_9
  refine region_lin [.val (.int .i64 0),.val (.bool true),.val (.bool true),.val (.agg #[.int .i64 p.w,.int .i64 p.x,.int .i64 p.y,.int .i64 p.z]),.val (.agg #[.int .i64 p.w,.int .i64 p.x,.int .i64 p.y,.int .i64 p.z]),.val (.agg #[.int .i64 p.w,.int .i64 p.x,.int .i64 p.y,.int .i64 p.z]),.val (.bool true),.val (.bool true),.val (.bool true),.val (.pointer (some ⟨w2.heap.size,0,none⟩)),.val (.int .i64 p.w),.val (.bool true),.val (.bool true),.val (.bool true),.val (.agg #[.string (qs S.x),.string (qs S.y),.string (qs S.z)]),.val (.string (qs (p.w:Rat))),.val (.agg #[.string (qs A.x),.string (qs A.y),.string (qs A.z)]),.val (.pointer (some ⟨w2.heap.size,1,none⟩)),.val (.int .i64 p.x),.val (.pointer (some ⟨w2.heap.size,2,none⟩)),.val (.int .i64 p.y),.val (.pointer (some ⟨w2.heap.size,3,none⟩)),.val (.int .i64 p.z),.val (.agg #[.string (qs A.x),.string (qs A.y),.string (qs A.z)]),.val (.bool true),.val (.bool true),.val (.bool true)] (by kernel_rfl) (by kernel_rfl) (by kernel_rfl) ?_ (fun g9 w10 hx_ hm_ hne_ => ?_)
  · skip
    refine RnL.cons (fun g9 A_ W_ hs_ => ?_) ?_
    · have q6_:=(hs_.old 6 (by kernel_rfl):A_.tmps[6]?.getD undef = .int .i64 0)
      refine Rn.val fun K_ hK_ => ?_
      go_simp
      exact hK_.out _ (Ext.refl _)
    refine RnL.cons (fun g9 A_ W_ hs_ => ?_) ?_
    · have q85_:=hs_.val 0 rfl rfl rfl
      refine Rn.val fun K_ hK_ => ?_
      go_simp
      exact hK_.out _ (Ext.refl _)
    refine RnL.cons (fun g9 A_ W_ hs_ => ?_) ?_
    · have q86_:=hs_.val 1 rfl rfl rfl
      refine Rn.val fun K_ hK_ => ?_
      go_simp
      exact hK_.out _ (Ext.refl _)
    refine RnL.cons (fun g9 A_ W_ hs_ => ?_) ?_
    · have q5_:=(hs_.old 5 (by kernel_rfl):A_.tmps[5]?.getD undef = .pointer (some ⟨w2.heap.size,0,none⟩))
      have cB1_0:=((HB1_9.out.drew.ext hs_.1)).cell 0 rfl
      have cB1_1:=((HB1_9.out.drew.ext hs_.1)).cell 1 rfl
      have cB1_2:=((HB1_9.out.drew.ext hs_.1)).cell 2 rfl
      have cB1_3:=((HB1_9.out.drew.ext hs_.1)).cell 3 rfl
      refine Rn.val fun K_ hK_ => ?_
      go_simp
      exact hK_.out _ (Ext.refl _)
    refine RnL.cons (fun g9 A_ W_ hs_ => ?_) ?_
    · have q5_:=(hs_.old 5 (by kernel_rfl):A_.tmps[5]?.getD undef = .pointer (some ⟨w2.heap.size,0,none⟩))
      have cB1_0:=((HB1_9.out.drew.ext hs_.1)).cell 0 rfl
      have cB1_1:=((HB1_9.out.drew.ext hs_.1)).cell 1 rfl
      have cB1_2:=((HB1_9.out.drew.ext hs_.1)).cell 2 rfl
      have cB1_3:=((HB1_9.out.drew.ext hs_.1)).cell 3 rfl
      refine Rn.val fun K_ hK_ => ?_
      go_simp
      exact hK_.out _ (Ext.refl _)
    refine RnL.cons (fun g9 A_ W_ hs_ => ?_) ?_
    · have q89_:=hs_.val 4 rfl rfl rfl
      refine Rn.val fun K_ hK_ => ?_
      go_simp
      refine (lprim_as p p HPP.out _ (HG.out.ext (HX9.out.drew.trans hs_.1)) HPI.out.bd HPZ.out).mono ?_;rintro e W9_ ⟨rfl,e9_⟩;exact hK_.out _ e9_
    refine RnL.cons (fun g9 A_ W_ hs_ => ?_) ?_
    · have q88_:=hs_.val 3 rfl rfl rfl
      have q90_:=hs_.val 5 rfl rfl rfl
      refine Rn.val fun K_ hK_ => ?_
      go_simp
      exact hK_.out _ (Ext.refl _)
    refine RnL.cons (fun g9 A_ W_ hs_ => ?_) ?_
    · have q87_:=hs_.val 2 rfl rfl rfl
      have q91_:=hs_.val 6 rfl rfl rfl
      refine Rn.val fun K_ hK_ => ?_
      go_simp
      exact hK_.out _ (Ext.refl _)
    refine RnL.cons (fun g9 A_ W_ hs_ => ?_) ?_
    · have q92_:=hs_.val 7 rfl rfl rfl
      refine Rn.val fun K_ hK_ => ?_
      go_simp
      exact hK_.out _ (Ext.refl _)
    refine RnL.cons (fun g9 A_ W_ hs_ => ?_) ?_
    · have q5_:=(hs_.old 5 (by kernel_rfl):A_.tmps[5]?.getD undef = .pointer (some ⟨w2.heap.size,0,none⟩))
      refine Rn.val fun K_ hK_ => ?_
      go_simp
      exact hK_.out _ (Ext.refl _)
    refine RnL.cons (fun g9 A_ W_ hs_ => ?_) ?_
    · have q94_:=hs_.val 9 rfl rfl rfl
      have cB1_0:=((HB1_9.out.drew.ext hs_.1)).cell 0 rfl
      refine Rn.val fun K_ hK_ => ?_
      go_simp
      exact hK_.out _ (Ext.refl _)
    refine RnL.cons (fun g9 A_ W_ hs_ => ?_) ?_
    · have q95_:=hs_.val 10 rfl rfl rfl
      refine Rn.val fun K_ hK_ => ?_
      go_simp
      exact hK_.out _ (Ext.refl _)
    refine RnL.cons (fun g9 A_ W_ hs_ => ?_) ?_
    · have q93_:=hs_.val 8 rfl rfl rfl
      have q96_:=hs_.val 11 rfl rfl rfl
      refine Rn.val fun K_ hK_ => ?_
      go_simp
      exact hK_.out _ (Ext.refl _)
    refine RnL.cons (fun g9 A_ W_ hs_ => ?_) ?_
    · have q97_:=hs_.val 12 rfl rfl rfl
      refine Rn.val fun K_ hK_ => ?_
      go_simp
      exact hK_.out _ (Ext.refl _)
    refine RnL.cons (fun g9 A_ W_ hs_ => ?_) ?_
    · have q7_:=(hs_.old 7 (by kernel_rfl):A_.tmps[7]?.getD undef = .pointer (some ⟨w6.heap.size,0,none⟩))
      have cB2_0:=((HB2_9.out.drew.ext hs_.1)).cell 0 rfl
      have cB2_1:=((HB2_9.out.drew.ext hs_.1)).cell 1 rfl
      have cB2_2:=((HB2_9.out.drew.ext hs_.1)).cell 2 rfl
      refine Rn.val fun K_ hK_ => ?_
      go_simp
      exact hK_.out _ (Ext.refl _)
    refine RnL.cons (fun g9 A_ W_ hs_ => ?_) ?_
    · have q8_:=(hs_.old 8 (by kernel_rfl):A_.tmps[8]?.getD undef = .string (qs (p.w:Rat)))
      refine Rn.val fun K_ hK_ => ?_
      go_simp
      exact hK_.out _ (Ext.refl _)
    refine RnL.cons (fun g9 A_ W_ hs_ => ?_) ?_
    · have q99_:=hs_.val 14 rfl rfl rfl
      have q100_:=hs_.val 15 rfl rfl rfl
      refine Rn.val fun K_ hK_ => ?_
      go_simp
      refine (sscale_as S (p.w:Rat) A HA2.out _ (HG.out.ext (HX9.out.drew.trans hs_.1)) HS.out HW.out (by decide) (by decide)).mono ?_;rintro e W9_ ⟨rfl,e9_⟩;exact hK_.out _ e9_
    refine RnL.cons (fun g9 A_ W_ hs_ => ?_) ?_
    · have q5_:=(hs_.old 5 (by kernel_rfl):A_.tmps[5]?.getD undef = .pointer (some ⟨w2.heap.size,0,none⟩))
      refine Rn.val fun K_ hK_ => ?_
      go_simp
      exact hK_.out _ (Ext.refl _)
    refine RnL.cons (fun g9 A_ W_ hs_ => ?_) ?_
    · have q102_:=hs_.val 17 rfl rfl rfl
      have cB1_1:=((HB1_9.out.drew.ext hs_.1)).cell 1 rfl
      refine Rn.val fun K_ hK_ => ?_
      go_simp
      exact hK_.out _ (Ext.refl _)
    refine RnL.cons (fun g9 A_ W_ hs_ => ?_) ?_
    · have q5_:=(hs_.old 5 (by kernel_rfl):A_.tmps[5]?.getD undef = .pointer (some ⟨w2.heap.size,0,none⟩))
      refine Rn.val fun K_ hK_ => ?_
      go_simp
      exact hK_.out _ (Ext.refl _)
    refine RnL.cons (fun g9 A_ W_ hs_ => ?_) ?_
    · have q104_:=hs_.val 19 rfl rfl rfl
      have cB1_2:=((HB1_9.out.drew.ext hs_.1)).cell 2 rfl
      refine Rn.val fun K_ hK_ => ?_
      go_simp
      exact hK_.out _ (Ext.refl _)
    refine RnL.cons (fun g9 A_ W_ hs_ => ?_) ?_
    · have q5_:=(hs_.old 5 (by kernel_rfl):A_.tmps[5]?.getD undef = .pointer (some ⟨w2.heap.size,0,none⟩))
      refine Rn.val fun K_ hK_ => ?_
      go_simp
      exact hK_.out _ (Ext.refl _)
    refine RnL.cons (fun g9 A_ W_ hs_ => ?_) ?_
    · have q106_:=hs_.val 21 rfl rfl rfl
      have cB1_3:=((HB1_9.out.drew.ext hs_.1)).cell 3 rfl
      refine Rn.val fun K_ hK_ => ?_
      go_simp
      exact hK_.out _ (Ext.refl _)
    refine RnL.cons (fun g9 A_ W_ hs_ => ?_) ?_
    · have q103_:=hs_.val 18 rfl rfl rfl
      have q105_:=hs_.val 20 rfl rfl rfl
      have q107_:=hs_.val 22 rfl rfl rfl
      refine Rn.val fun K_ hK_ => ?_
      go_simp
      refine (sofm_as p.x p.y p.z A HAE.out _ (HG.out.ext (HX9.out.drew.trans hs_.1)) HPI.out.x HPI.out.y HPI.out.z).mono ?_;rintro e W9_ ⟨rfl,e9_⟩;exact hK_.out _ e9_
    refine RnL.cons (fun g9 A_ W_ hs_ => ?_) ?_
    · have q101_:=hs_.val 16 rfl rfl rfl
      have q108_:=hs_.val 23 rfl rfl rfl
      refine Rn.val fun K_ hK_ => ?_
      go_simp
      exact hK_.out _ (Ext.refl _)
    refine RnL.cons (fun g9 A_ W_ hs_ => ?_) ?_
    · have q98_:=hs_.val 13 rfl rfl rfl
      have q109_:=hs_.val 24 rfl rfl rfl
      refine Rn.val fun K_ hK_ => ?_
      go_simp
      exact hK_.out _ (Ext.refl _)
    refine RnL.cons (fun g9 A_ W_ hs_ => ?_) ?_
    · have q110_:=hs_.val 25 rfl rfl rfl
      refine Rn.val fun K_ hK_ => ?_
      go_simp
      exact hK_.out _ (Ext.refl _)
    exact RnL.nil
  simp only [fs,Kd.value,puts,Act.put,List.setIfInBounds_toArray,List.set_cons_zero,List.set_cons_succ]
  have HX10:Hid (Ext w w10):=Lib.hid (HX9.out.drew.trans hx_)
  clear hx_ hm_ hne_
  go_wp2
  go_ret
  exact ⟨rfl,HX10.out⟩

theorem arounds17_walk (n:T3) (k:ByteArray) (w:World) (g:Gd w):Calls Tryz.prog 4 #[tv n,.string k] w (Ret w (.bool true)):=by
  by_cases z0:40 < n.x.size
  · exact arounds17_L0 n k w g z0
  by_cases z1:40 < n.y.size
  · exact arounds17_L1 n k w g z0 z1
  by_cases z2:40 < n.z.size
  · exact arounds17_L2 n k w g z0 z1 z2
  by_cases z3:40 < k.size
  · exact arounds17_L3 n k w g z0 z1 z2 z3
  cases r:n.l.all rq with
  | false => exact arounds17_E n k w g z0 z1 z2 z3 r
  | true =>
    obtain ⟨v,rfl,hv⟩:=right_v r
    cases rk:rq k with
    | false => exact arounds17_K v k w g z0 z1 z2 z3 rk
    | true =>
      obtain ⟨q,rfl,hq⟩:=right_q rk
      by_cases hi:Q4In (prim4 (num4 1 (q * v.x) (q * v.y) (q * v.z)))
      · exact arounds17_Y v q w g z0 z1 z2 z3 hi
      · exact arounds17_N v q w g z0 z1 z2 z3 hi
end Go.Proofs.YtjeimihnoiephaaGreatDoor
