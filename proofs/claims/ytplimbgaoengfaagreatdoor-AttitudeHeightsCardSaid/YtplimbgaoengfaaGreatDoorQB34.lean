/- Part 34 of the proof: N2, N6. -/
import Derived.Test.YtplimbgaoengfaaGreatDoorQB1
import Derived.Test.YtplimbgaoengfaaGreatDoorQB2
import Derived.Test.YtplimbgaoengfaaGreatDoorQB3
import Derived.Test.YtplimbgaoengfaaGreatDoorQB4
import Derived.Test.YtplimbgaoengfaaGreatDoorQB5
import Derived.Test.YtplimbgaoengfaaGreatDoorQB6
import Derived.Test.YtplimbgaoengfaaGreatDoorQB7
import Derived.Test.YtplimbgaoengfaaGreatDoorQB8
import Derived.Test.YtplimbgaoengfaaGreatDoorQB9
import Derived.Test.YtplimbgaoengfaaGreatDoorQB10
import Derived.Test.YtplimbgaoengfaaGreatDoorQB11
import Derived.Test.YtplimbgaoengfaaGreatDoorQB12
import Derived.Test.YtplimbgaoengfaaGreatDoorQB13
import Derived.Test.YtplimbgaoengfaaGreatDoorQB14
import Derived.Test.YtplimbgaoengfaaGreatDoorQB15
import Derived.Test.YtplimbgaoengfaaGreatDoorQB16
import Derived.Test.YtplimbgaoengfaaGreatDoorQB17
import Derived.Test.YtplimbgaoengfaaGreatDoorQB18
import Derived.Test.YtplimbgaoengfaaGreatDoorQB19
import Derived.Test.YtplimbgaoengfaaGreatDoorQB20
import Derived.Test.YtplimbgaoengfaaGreatDoorQB21
import Derived.Test.YtplimbgaoengfaaGreatDoorQB22
import Derived.Test.YtplimbgaoengfaaGreatDoorQB23
import Derived.Test.YtplimbgaoengfaaGreatDoorQB24
import Derived.Test.YtplimbgaoengfaaGreatDoorQB25
import Derived.Test.YtplimbgaoengfaaGreatDoorQB26
import Derived.Test.YtplimbgaoengfaaGreatDoorQB27
import Derived.Test.YtplimbgaoengfaaGreatDoorQB28
import Derived.Test.YtplimbgaoengfaaGreatDoorQB29
import Derived.Test.YtplimbgaoengfaaGreatDoorQB30
import Derived.Test.YtplimbgaoengfaaGreatDoorQB31
import Derived.Test.YtplimbgaoengfaaGreatDoorQB32
import Derived.Test.YtplimbgaoengfaaGreatDoorQB33
namespace Go.Proofs.YtplimbgaoengfaaGreatDoor
open Go Go.RowKit
set_option maxRecDepth 100000 in
set_option maxHeartbeats 2000000 in
theorem aheight_e (n : T3) (o : ByteArray) (a : T2) (w : World) (g : Gd w) (hn : TS n) (he : terr n.l = 2) : Calls Tryz.prog 17 #[.agg #[.string n.x, .string n.y, .string n.z, .string o], .agg #[.string a.x, .string a.y]] w (Ret w (.tuple #[.string ⟨#[]⟩, .int .i64 2])) := by
  have HN := Lib.hid hn
  have HE := Lib.hid he
  have HG := Lib.hid g
  clear hn he g
  go_enter Tryz.func17, Tryz.ntmps17
  go_wp2_with fail
  refine (acheck_e n _ (HG.out.ext (((Ext.refl w).alloc _).alloc _)) HN.out HE.out).mono ?_; rintro e w1 ⟨rfl, e1⟩
  have HX1 : Hid (Ext w w1) := Lib.hid ((((Ext.refl w).alloc _).alloc _).trans e1)
  clear e1
  go_wp2
  go_ret2
  exact ⟨rfl, HX1.out⟩

set_option maxRecDepth 100000 in
set_option maxHeartbeats 2000000 in
theorem aheight_z (n : V3) (o : ByteArray) (a : T2) (w : World) (g : Gd w) (hn : VB 200 n) (hz : n.x = 0 ∧ n.y = 0 ∧ n.z = 0) : Calls Tryz.prog 17 #[.agg #[.string (qs n.x), .string (qs n.y), .string (qs n.z), .string o], .agg #[.string a.x, .string a.y]] w (Ret w (.tuple #[.string ⟨#[]⟩, .int .i64 17])) := by
  have HN := Lib.hid hn
  have HZ := Lib.hid hz
  have HG := Lib.hid g
  clear hn hz g
  go_enter Tryz.func17, Tryz.ntmps17
  go_wp2_with fail
  refine (acheck_z n _ (HG.out.ext (((Ext.refl w).alloc _).alloc _)) HN.out HZ.out.1 HZ.out.2.1 HZ.out.2.2).mono ?_; rintro e w1 ⟨rfl, e1⟩
  have HX1 : Hid (Ext w w1) := Lib.hid ((((Ext.refl w).alloc _).alloc _).trans e1)
  clear e1
  go_wp2
  go_ret2
  exact ⟨rfl, HX1.out⟩

set_option maxRecDepth 100000 in
set_option maxHeartbeats 2000000 in
theorem aheight_o (n : V3) (o : ByteArray) (a : T2) (w : World) (g : Gd w) (hn : VB 200 n) (hz : ¬ (n.x = 0 ∧ n.y = 0 ∧ n.z = 0)) (ho : o.size ≤ 1000000) (hq : rq o = false) : Calls Tryz.prog 17 #[.agg #[.string (qs n.x), .string (qs n.y), .string (qs n.z), .string o], .agg #[.string a.x, .string a.y]] w (Ret w (.tuple #[.string ⟨#[]⟩, .int .i64 2])) := by
  have HN := Lib.hid hn
  have HZ := Lib.hid hz
  have HO := Lib.hid ho
  have HQ := Lib.hid hq
  have HG := Lib.hid g
  clear hn hz ho hq g
  go_enter Tryz.func17, Tryz.ntmps17
  go_wp2_with fail
  refine (acheck_ok n _ (HG.out.ext (((Ext.refl w).alloc _).alloc _)) HN.out HZ.out).mono ?_; rintro e w1 ⟨rfl, e1⟩
  have HX1 : Hid (Ext w w1) := Lib.hid ((((Ext.refl w).alloc _).alloc _).trans e1)
  have HB0_1 : Hid (Blk w1 (w.heap.size) #[.string (qs n.x), .string (qs n.y), .string (qs n.z), .string o] 39) := Lib.hid (Blk.ext ((Blk.new' (w := _) (cs := #[.string (qs n.x), .string (qs n.y), .string (qs n.z), .string o]) (t := 39) (by first | rfl | (simp only [World.size_alloc]; done) | (simp only [World.size_alloc]; omega) | simp)).alloc _) e1)
  have HGEB0 : Hid (w.heap.size ≤ w.heap.size) := Lib.hid (by first | omega | (simp only []; omega) | (simp; omega))
  clear e1
  have c0_3 := HB0_1.out.cell 3 rfl
  go_wp2_with fail
  refine (rcheck_not o _ (HG.out.ext HX1.out) HO.out HQ.out).mono ?_; rintro e w2 ⟨rfl, e2⟩
  have HX2 : Hid (Ext w w2) := Lib.hid (HX1.out.trans e2)
  clear e2 c0_3
  go_wp2
  go_ret2
  exact ⟨rfl, HX2.out⟩

set_option maxRecDepth 100000 in
set_option maxHeartbeats 2000000 in
theorem aheight_u (n : V3) (c : Rat) (a : P2) (w : World) (g : Gd w) (hn : VB 200 n) (hz : ¬ (n.x = 0 ∧ n.y = 0 ∧ n.z = 0)) (hc : QB 200 c) (ha : PB 200 a) (h0 : n.z = 0) : Calls Tryz.prog 17 #[.agg #[.string (qs n.x), .string (qs n.y), .string (qs n.z), .string (qs c)], .agg #[.string (qs a.x), .string (qs a.y)]] w (Ret w (.tuple #[.string ⟨#[]⟩, .int .i64 21])) := by
  have HN := Lib.hid hn
  have HZ := Lib.hid hz
  have HO := Lib.hid hc
  have HA := Lib.hid ha
  have HG := Lib.hid g
  clear hn hz hc ha g
  have h0_t := qs_is0 h0
  clear h0
  go_enter Tryz.func17, Tryz.ntmps17
  go_wp2_with fail
  refine (acheck_ok n _ (HG.out.ext (((Ext.refl w).alloc _).alloc _)) HN.out HZ.out).mono ?_; rintro e w1 ⟨rfl, e1⟩
  have HX1 : Hid (Ext w w1) := Lib.hid ((((Ext.refl w).alloc _).alloc _).trans e1)
  have HB0_1 : Hid (Blk w1 (w.heap.size) #[.string (qs n.x), .string (qs n.y), .string (qs n.z), .string (qs c)] 39) := Lib.hid (Blk.ext ((Blk.new' (w := _) (cs := #[.string (qs n.x), .string (qs n.y), .string (qs n.z), .string (qs c)]) (t := 39) (by first | rfl | (simp only [World.size_alloc]; done) | (simp only [World.size_alloc]; omega) | simp)).alloc _) e1)
  have HB1_1 : Hid (Blk w1 (w.heap.size + 1) #[.string (qs a.x), .string (qs a.y)] 24) := Lib.hid (Blk.ext (Blk.new' (w := _) (cs := #[.string (qs a.x), .string (qs a.y)]) (t := 24) (by first | rfl | (simp only [World.size_alloc]; done) | (simp only [World.size_alloc]; omega) | simp)) e1)
  have HGEB0 : Hid (w.heap.size ≤ w.heap.size) := Lib.hid (by first | omega | (simp only []; omega) | (simp; omega))
  have HGEB1 : Hid (w.heap.size ≤ w.heap.size + 1) := Lib.hid (by first | omega | (simp only []; omega) | (simp; omega))
  clear e1
  have c0_3 := HB0_1.out.cell 3 rfl
  go_wp2_with fail
  refine (rcheck_yes (qs c) _ (HG.out.ext HX1.out) (HO.out.len (by decide)) (rq_qs HO.out)).mono ?_; rintro e w2 ⟨rfl, e2⟩
  have HX2 : Hid (Ext w w2) := Lib.hid (HX1.out.trans e2)
  have HB0_2 := Lib.hid (Blk.ext HB0_1.out e2)
  have HB1_2 := Lib.hid (Blk.ext HB1_1.out e2)
  clear e2 c0_3
  have c1_0 := HB1_2.out.cell 0 rfl
  have c1_1 := HB1_2.out.cell 1 rfl
  go_wp2_with fail
  refine (vCheckPoint_ok a _ (HG.out.ext HX2.out) HA.out).mono ?_; rintro e w3 ⟨rfl, e3⟩
  have HX3 : Hid (Ext w w3) := Lib.hid (HX2.out.trans e3)
  have HB0_3 := Lib.hid (Blk.ext HB0_2.out e3)
  clear e3 c1_0 c1_1
  have c0_2 := HB0_3.out.cell 2 rfl
  go_wp2
  go_ret2
  exact ⟨rfl, HX3.out⟩

end Go.Proofs.YtplimbgaoengfaaGreatDoor

namespace Go.Proofs.YtplimbgaoengfaaGreatDoor
open Go Go.RowKit
set_option maxRecDepth 100000 in
set_option maxHeartbeats 8000000 in
theorem heights15_L (n : T3) (o : ByteArray) (a : T2) (w : World) (g : Gd w) (hsz : [n.x, n.y, n.z, o, a.x, a.y].all sz24 = false) : Calls Tryz.prog 4 #[.agg #[.string n.x, .string n.y, .string n.z, .string o], .agg #[.string a.x, .string a.y]] w (Ret w (.bool true)) := by
  have HG := Lib.hid g
  clear g
  have HSZ := Lib.hid hsz
  clear hsz
  go_enter Tryz.func4, Tryz.ntmps4
  go_wp2_with fail
  refine (known15_c _ (HG.out.ext (((Ext.refl w).alloc _).alloc _))).mono ?_; rintro e w1 ⟨rfl, e1⟩
  have HX1 : Hid (Ext w w1) := Lib.hid ((((Ext.refl w).alloc _).alloc _).trans e1)
  have HB0_1 : Hid (Blk w1 (w.heap.size) #[.string n.x, .string n.y, .string n.z, .string o] 39) := Lib.hid (Blk.ext ((Blk.new' (w := _) (cs := #[.string n.x, .string n.y, .string n.z, .string o]) (t := 39) (by first | rfl | (simp only [World.size_alloc]; done) | (simp only [World.size_alloc]; omega) | simp)).alloc _) e1)
  have HB1_1 : Hid (Blk w1 (w.heap.size + 1) #[.string a.x, .string a.y] 24) := Lib.hid (Blk.ext (Blk.new' (w := _) (cs := #[.string a.x, .string a.y]) (t := 24) (by first | rfl | (simp only [World.size_alloc]; done) | (simp only [World.size_alloc]; omega) | simp)) e1)
  have HGEB0 : Hid (w.heap.size ≤ w.heap.size) := Lib.hid (by first | omega | (simp only []; omega) | (simp; omega))
  have HGEB1 : Hid (w.heap.size ≤ w.heap.size + 1) := Lib.hid (by first | omega | (simp only []; omega) | (simp; omega))
  clear e1
  have c0_0 := HB0_1.out.cell 0 rfl
  have c0_1 := HB0_1.out.cell 1 rfl
  have c0_2 := HB0_1.out.cell 2 rfl
  have c0_3 := HB0_1.out.cell 3 rfl
  have c1_0 := HB1_1.out.cell 0 rfl
  have c1_1 := HB1_1.out.cell 1 rfl
  go_wp2_with fail
  refine (short15_b [n.x, n.y, n.z, o, a.x, a.y] 6 (w1.heap.size) false _ rfl (by decide) HSZ.out (Blk.new' (w := _) (cs := #[.string n.x, .string n.y, .string n.z, .string o, .string a.x, .string a.y]) (t := 22) (by first | rfl | (simp only [World.size_alloc]; done) | (simp only [World.size_alloc]; omega) | simp))).mono ?_; rintro e w2 ⟨rfl, e2⟩
  have HX2 : Hid (Ext w w2) := Lib.hid ((HX1.out.alloc _).trans e2)
  have HB2_2 : Hid (Blk w2 (w1.heap.size) #[.string n.x, .string n.y, .string n.z, .string o, .string a.x, .string a.y] 22) := Lib.hid (Blk.ext (Blk.new' (w := _) (cs := #[.string n.x, .string n.y, .string n.z, .string o, .string a.x, .string a.y]) (t := 22) (by first | rfl | (simp only [World.size_alloc]; done) | (simp only [World.size_alloc]; omega) | simp)) e2)
  have HGEB2 : Hid (w.heap.size ≤ w1.heap.size) := Lib.hid (by have := HX1.out.size; first | omega | (simp only []; omega) | (simp; omega))
  clear e2 c0_0 c0_1 c0_2 c0_3 c1_0 c1_1
  go_wp2_with fail
  refine (known15_c _ (HG.out.ext HX2.out)).mono ?_; rintro e w3 ⟨rfl, e3⟩
  have HX3 : Hid (Ext w w3) := Lib.hid (HX2.out.trans e3)
  clear e3
  go_wp2
  go_ret
  exact ⟨rfl, HX3.out⟩

set_option maxRecDepth 100000 in
set_option maxHeartbeats 8000000 in
theorem heights15_E (n : T3) (o : ByteArray) (a : T2) (w : World) (g : Gd w) (hsz : [n.x, n.y, n.z, o, a.x, a.y].all sz24 = true) (hr : n.l.all rq = false) : Calls Tryz.prog 4 #[.agg #[.string n.x, .string n.y, .string n.z, .string o], .agg #[.string a.x, .string a.y]] w (Ret w (.bool true)) := by
  have HR := Lib.hid hr
  have HG := Lib.hid g
  clear hr g
  have HSZ := Lib.hid hsz
  simp only [List.all_cons, List.all_nil, Bool.and_true, Bool.and_eq_true, sz24_true] at hsz
  obtain ⟨s0, s1, s2, s3, s4, s5⟩ := hsz
  have HE : Hid (terr n.l = 2) := Lib.hid (terr_2 HR.out)
  have HN : Hid (TS n) := Lib.hid ⟨(Nat.le_trans s0 (by decide)), (Nat.le_trans s1 (by decide)), (Nat.le_trans s2 (by decide))⟩
  clear s0 s1 s2 s3 s4 s5
  go_enter Tryz.func4, Tryz.ntmps4
  go_wp2_with fail
  refine (known15_c _ (HG.out.ext (((Ext.refl w).alloc _).alloc _))).mono ?_; rintro e w1 ⟨rfl, e1⟩
  have HX1 : Hid (Ext w w1) := Lib.hid ((((Ext.refl w).alloc _).alloc _).trans e1)
  have HB0_1 : Hid (Blk w1 (w.heap.size) #[.string n.x, .string n.y, .string n.z, .string o] 39) := Lib.hid (Blk.ext ((Blk.new' (w := _) (cs := #[.string n.x, .string n.y, .string n.z, .string o]) (t := 39) (by first | rfl | (simp only [World.size_alloc]; done) | (simp only [World.size_alloc]; omega) | simp)).alloc _) e1)
  have HB1_1 : Hid (Blk w1 (w.heap.size + 1) #[.string a.x, .string a.y] 24) := Lib.hid (Blk.ext (Blk.new' (w := _) (cs := #[.string a.x, .string a.y]) (t := 24) (by first | rfl | (simp only [World.size_alloc]; done) | (simp only [World.size_alloc]; omega) | simp)) e1)
  have HGEB0 : Hid (w.heap.size ≤ w.heap.size) := Lib.hid (by first | omega | (simp only []; omega) | (simp; omega))
  have HGEB1 : Hid (w.heap.size ≤ w.heap.size + 1) := Lib.hid (by first | omega | (simp only []; omega) | (simp; omega))
  clear e1
  have c0_0 := HB0_1.out.cell 0 rfl
  have c0_1 := HB0_1.out.cell 1 rfl
  have c0_2 := HB0_1.out.cell 2 rfl
  have c0_3 := HB0_1.out.cell 3 rfl
  have c1_0 := HB1_1.out.cell 0 rfl
  have c1_1 := HB1_1.out.cell 1 rfl
  go_wp2_with fail
  refine (short15_b [n.x, n.y, n.z, o, a.x, a.y] 6 (w1.heap.size) true _ rfl (by decide) HSZ.out (Blk.new' (w := _) (cs := #[.string n.x, .string n.y, .string n.z, .string o, .string a.x, .string a.y]) (t := 22) (by first | rfl | (simp only [World.size_alloc]; done) | (simp only [World.size_alloc]; omega) | simp))).mono ?_; rintro e w2 ⟨rfl, e2⟩
  have HX2 : Hid (Ext w w2) := Lib.hid ((HX1.out.alloc _).trans e2)
  have HB0_2 : Hid (Blk w2 (w.heap.size) #[.string n.x, .string n.y, .string n.z, .string o] 39) := Lib.hid (Blk.ext (HB0_1.out.alloc _) e2)
  have HB1_2 : Hid (Blk w2 (w.heap.size + 1) #[.string a.x, .string a.y] 24) := Lib.hid (Blk.ext (HB1_1.out.alloc _) e2)
  have HB2_2 : Hid (Blk w2 (w1.heap.size) #[.string n.x, .string n.y, .string n.z, .string o, .string a.x, .string a.y] 22) := Lib.hid (Blk.ext (Blk.new' (w := _) (cs := #[.string n.x, .string n.y, .string n.z, .string o, .string a.x, .string a.y]) (t := 22) (by first | rfl | (simp only [World.size_alloc]; done) | (simp only [World.size_alloc]; omega) | simp)) e2)
  have HGEB2 : Hid (w.heap.size ≤ w1.heap.size) := Lib.hid (by have := HX1.out.size; first | omega | (simp only []; omega) | (simp; omega))
  clear e2 c0_0 c0_1 c0_2 c0_3 c1_0 c1_1
  have c0_0 := HB0_2.out.cell 0 rfl
  have c0_1 := HB0_2.out.cell 1 rfl
  have c0_2 := HB0_2.out.cell 2 rfl
  have c0_3 := HB0_2.out.cell 3 rfl
  have c1_0 := HB1_2.out.cell 0 rfl
  have c1_1 := HB1_2.out.cell 1 rfl
  go_wp2_with fail
  refine (aheight_e n o a _ (HG.out.ext HX2.out) HN.out HE.out).mono ?_; rintro e w3 ⟨rfl, e3⟩
  have HX3 : Hid (Ext w w3) := Lib.hid (HX2.out.trans e3)
  have HB0_3 := Lib.hid (Blk.ext HB0_2.out e3)
  clear e3 c0_0 c0_1 c0_2 c0_3 c1_0 c1_1
  have c0_0 := HB0_3.out.cell 0 rfl
  have c0_1 := HB0_3.out.cell 1 rfl
  have c0_2 := HB0_3.out.cell 2 rfl
  go_wp2_with fail
  refine (lnorm_e n _ (HG.out.ext HX3.out) HN.out HR.out).mono ?_; rintro e w4 ⟨rfl, e4⟩
  have HX4 : Hid (Ext w w4) := Lib.hid (HX3.out.trans e4)
  clear e4 c0_0 c0_1 c0_2
  go_wp2
  go_ret
  exact ⟨rfl, HX4.out⟩

set_option maxRecDepth 100000 in
set_option maxHeartbeats 8000000 in
theorem heights15_Z (n : V3) (o : ByteArray) (a : T2) (w : World) (g : Gd w) (hsz : [qs n.x, qs n.y, qs n.z, o, a.x, a.y].all sz24 = true) (hn : VB 200 n) (hz : n.x = 0 ∧ n.y = 0 ∧ n.z = 0) : Calls Tryz.prog 4 #[.agg #[.string (qs n.x), .string (qs n.y), .string (qs n.z), .string o], .agg #[.string a.x, .string a.y]] w (Ret w (.bool true)) := by
  have HN := Lib.hid hn
  have HZ := Lib.hid hz
  have HG := Lib.hid g
  clear hn hz g
  have HSZ := Lib.hid hsz
  simp only [List.all_cons, List.all_nil, Bool.and_true, Bool.and_eq_true, sz24_true] at hsz
  obtain ⟨s0, s1, s2, s3, s4, s5⟩ := hsz
  clear s0 s1 s2 s3 s4 s5
  go_enter Tryz.func4, Tryz.ntmps4
  go_wp2_with fail
  refine (known15_c _ (HG.out.ext (((Ext.refl w).alloc _).alloc _))).mono ?_; rintro e w1 ⟨rfl, e1⟩
  have HX1 : Hid (Ext w w1) := Lib.hid ((((Ext.refl w).alloc _).alloc _).trans e1)
  have HB0_1 : Hid (Blk w1 (w.heap.size) #[.string (qs n.x), .string (qs n.y), .string (qs n.z), .string o] 39) := Lib.hid (Blk.ext ((Blk.new' (w := _) (cs := #[.string (qs n.x), .string (qs n.y), .string (qs n.z), .string o]) (t := 39) (by first | rfl | (simp only [World.size_alloc]; done) | (simp only [World.size_alloc]; omega) | simp)).alloc _) e1)
  have HB1_1 : Hid (Blk w1 (w.heap.size + 1) #[.string a.x, .string a.y] 24) := Lib.hid (Blk.ext (Blk.new' (w := _) (cs := #[.string a.x, .string a.y]) (t := 24) (by first | rfl | (simp only [World.size_alloc]; done) | (simp only [World.size_alloc]; omega) | simp)) e1)
  have HGEB0 : Hid (w.heap.size ≤ w.heap.size) := Lib.hid (by first | omega | (simp only []; omega) | (simp; omega))
  have HGEB1 : Hid (w.heap.size ≤ w.heap.size + 1) := Lib.hid (by first | omega | (simp only []; omega) | (simp; omega))
  clear e1
  have c0_0 := HB0_1.out.cell 0 rfl
  have c0_1 := HB0_1.out.cell 1 rfl
  have c0_2 := HB0_1.out.cell 2 rfl
  have c0_3 := HB0_1.out.cell 3 rfl
  have c1_0 := HB1_1.out.cell 0 rfl
  have c1_1 := HB1_1.out.cell 1 rfl
  go_wp2_with fail
  refine (short15_b [qs n.x, qs n.y, qs n.z, o, a.x, a.y] 6 (w1.heap.size) true _ rfl (by decide) HSZ.out (Blk.new' (w := _) (cs := #[.string (qs n.x), .string (qs n.y), .string (qs n.z), .string o, .string a.x, .string a.y]) (t := 22) (by first | rfl | (simp only [World.size_alloc]; done) | (simp only [World.size_alloc]; omega) | simp))).mono ?_; rintro e w2 ⟨rfl, e2⟩
  have HX2 : Hid (Ext w w2) := Lib.hid ((HX1.out.alloc _).trans e2)
  have HB0_2 : Hid (Blk w2 (w.heap.size) #[.string (qs n.x), .string (qs n.y), .string (qs n.z), .string o] 39) := Lib.hid (Blk.ext (HB0_1.out.alloc _) e2)
  have HB1_2 : Hid (Blk w2 (w.heap.size + 1) #[.string a.x, .string a.y] 24) := Lib.hid (Blk.ext (HB1_1.out.alloc _) e2)
  have HB2_2 : Hid (Blk w2 (w1.heap.size) #[.string (qs n.x), .string (qs n.y), .string (qs n.z), .string o, .string a.x, .string a.y] 22) := Lib.hid (Blk.ext (Blk.new' (w := _) (cs := #[.string (qs n.x), .string (qs n.y), .string (qs n.z), .string o, .string a.x, .string a.y]) (t := 22) (by first | rfl | (simp only [World.size_alloc]; done) | (simp only [World.size_alloc]; omega) | simp)) e2)
  have HGEB2 : Hid (w.heap.size ≤ w1.heap.size) := Lib.hid (by have := HX1.out.size; first | omega | (simp only []; omega) | (simp; omega))
  clear e2 c0_0 c0_1 c0_2 c0_3 c1_0 c1_1
  have c0_0 := HB0_2.out.cell 0 rfl
  have c0_1 := HB0_2.out.cell 1 rfl
  have c0_2 := HB0_2.out.cell 2 rfl
  have c0_3 := HB0_2.out.cell 3 rfl
  have c1_0 := HB1_2.out.cell 0 rfl
  have c1_1 := HB1_2.out.cell 1 rfl
  go_wp2_with fail
  refine (aheight_z n o a _ (HG.out.ext HX2.out) HN.out HZ.out).mono ?_; rintro e w3 ⟨rfl, e3⟩
  have HX3 : Hid (Ext w w3) := Lib.hid (HX2.out.trans e3)
  have HB0_3 := Lib.hid (Blk.ext HB0_2.out e3)
  clear e3 c0_0 c0_1 c0_2 c0_3 c1_0 c1_1
  have c0_0 := HB0_3.out.cell 0 rfl
  have c0_1 := HB0_3.out.cell 1 rfl
  have c0_2 := HB0_3.out.cell 2 rfl
  go_wp2_with fail
  refine (lnorm_z n _ (HG.out.ext HX3.out) HN.out HZ.out.1 HZ.out.2.1 HZ.out.2.2).mono ?_; rintro e w4 ⟨rfl, e4⟩
  have HX4 : Hid (Ext w w4) := Lib.hid (HX3.out.trans e4)
  clear e4 c0_0 c0_1 c0_2
  go_wp2
  go_ret
  exact ⟨rfl, HX4.out⟩

set_option maxRecDepth 100000 in
set_option maxHeartbeats 8000000 in
theorem heights15_W1 (n : V3) (o : ByteArray) (a : T2) (w : World) (g : Gd w) (hsz : [qs n.x, qs n.y, qs n.z, o, a.x, a.y].all sz24 = true) (hn : VB 200 n) (hz : ¬ (n.x = 0 ∧ n.y = 0 ∧ n.z = 0)) (hq : rq o = false) : Calls Tryz.prog 4 #[.agg #[.string (qs n.x), .string (qs n.y), .string (qs n.z), .string o], .agg #[.string a.x, .string a.y]] w (Ret w (.bool true)) := by
  have HN := Lib.hid hn
  have HZ := Lib.hid hz
  have HQ := Lib.hid hq
  have HG := Lib.hid g
  clear hn hz hq g
  have HSZ := Lib.hid hsz
  simp only [List.all_cons, List.all_nil, Bool.and_true, Bool.and_eq_true, sz24_true] at hsz
  obtain ⟨s0, s1, s2, s3, s4, s5⟩ := hsz
  have HL3 : Hid (∀ (i : Nat) (hi : i < [o, a.x, a.y].length), ([o, a.x, a.y][i]).size ≤ 1000000) := Lib.hid (sizes3 (Nat.le_trans s3 (by decide)) (Nat.le_trans s4 (by decide)) (Nat.le_trans s5 (by decide)))
  have HRT : Hid ([o, a.x, a.y].all rq = false) := Lib.hid (by have h1 := HQ.out; simp [h1])
  have HO : Hid (o.size ≤ 1000000) := Lib.hid (Nat.le_trans s3 (by decide))
  have HA : Hid (TS2 a) := Lib.hid ⟨(Nat.le_trans s4 (by decide)), (Nat.le_trans s5 (by decide))⟩
  clear s0 s1 s2 s3 s4 s5
  go_enter Tryz.func4, Tryz.ntmps4
  go_wp2_with fail
  refine (known15_c _ (HG.out.ext (((Ext.refl w).alloc _).alloc _))).mono ?_; rintro e w1 ⟨rfl, e1⟩
  have HX1 : Hid (Ext w w1) := Lib.hid ((((Ext.refl w).alloc _).alloc _).trans e1)
  have HB0_1 : Hid (Blk w1 (w.heap.size) #[.string (qs n.x), .string (qs n.y), .string (qs n.z), .string o] 39) := Lib.hid (Blk.ext ((Blk.new' (w := _) (cs := #[.string (qs n.x), .string (qs n.y), .string (qs n.z), .string o]) (t := 39) (by first | rfl | (simp only [World.size_alloc]; done) | (simp only [World.size_alloc]; omega) | simp)).alloc _) e1)
  have HB1_1 : Hid (Blk w1 (w.heap.size + 1) #[.string a.x, .string a.y] 24) := Lib.hid (Blk.ext (Blk.new' (w := _) (cs := #[.string a.x, .string a.y]) (t := 24) (by first | rfl | (simp only [World.size_alloc]; done) | (simp only [World.size_alloc]; omega) | simp)) e1)
  have HGEB0 : Hid (w.heap.size ≤ w.heap.size) := Lib.hid (by first | omega | (simp only []; omega) | (simp; omega))
  have HGEB1 : Hid (w.heap.size ≤ w.heap.size + 1) := Lib.hid (by first | omega | (simp only []; omega) | (simp; omega))
  clear e1
  have c0_0 := HB0_1.out.cell 0 rfl
  have c0_1 := HB0_1.out.cell 1 rfl
  have c0_2 := HB0_1.out.cell 2 rfl
  have c0_3 := HB0_1.out.cell 3 rfl
  have c1_0 := HB1_1.out.cell 0 rfl
  have c1_1 := HB1_1.out.cell 1 rfl
  go_wp2_with fail
  refine (short15_b [qs n.x, qs n.y, qs n.z, o, a.x, a.y] 6 (w1.heap.size) true _ rfl (by decide) HSZ.out (Blk.new' (w := _) (cs := #[.string (qs n.x), .string (qs n.y), .string (qs n.z), .string o, .string a.x, .string a.y]) (t := 22) (by first | rfl | (simp only [World.size_alloc]; done) | (simp only [World.size_alloc]; omega) | simp))).mono ?_; rintro e w2 ⟨rfl, e2⟩
  have HX2 : Hid (Ext w w2) := Lib.hid ((HX1.out.alloc _).trans e2)
  have HB0_2 : Hid (Blk w2 (w.heap.size) #[.string (qs n.x), .string (qs n.y), .string (qs n.z), .string o] 39) := Lib.hid (Blk.ext (HB0_1.out.alloc _) e2)
  have HB1_2 : Hid (Blk w2 (w.heap.size + 1) #[.string a.x, .string a.y] 24) := Lib.hid (Blk.ext (HB1_1.out.alloc _) e2)
  have HB2_2 : Hid (Blk w2 (w1.heap.size) #[.string (qs n.x), .string (qs n.y), .string (qs n.z), .string o, .string a.x, .string a.y] 22) := Lib.hid (Blk.ext (Blk.new' (w := _) (cs := #[.string (qs n.x), .string (qs n.y), .string (qs n.z), .string o, .string a.x, .string a.y]) (t := 22) (by first | rfl | (simp only [World.size_alloc]; done) | (simp only [World.size_alloc]; omega) | simp)) e2)
  have HGEB2 : Hid (w.heap.size ≤ w1.heap.size) := Lib.hid (by have := HX1.out.size; first | omega | (simp only []; omega) | (simp; omega))
  clear e2 c0_0 c0_1 c0_2 c0_3 c1_0 c1_1
  have c0_0 := HB0_2.out.cell 0 rfl
  have c0_1 := HB0_2.out.cell 1 rfl
  have c0_2 := HB0_2.out.cell 2 rfl
  have c0_3 := HB0_2.out.cell 3 rfl
  have c1_0 := HB1_2.out.cell 0 rfl
  have c1_1 := HB1_2.out.cell 1 rfl
  go_wp2_with fail
  refine (aheight_o n o a _ (HG.out.ext HX2.out) HN.out HZ.out HO.out HQ.out).mono ?_; rintro e w3 ⟨rfl, e3⟩
  have HX3 : Hid (Ext w w3) := Lib.hid (HX2.out.trans e3)
  have HB0_3 := Lib.hid (Blk.ext HB0_2.out e3)
  have HB1_3 := Lib.hid (Blk.ext HB1_2.out e3)
  clear e3 c0_0 c0_1 c0_2 c0_3 c1_0 c1_1
  have c0_0 := HB0_3.out.cell 0 rfl
  have c0_1 := HB0_3.out.cell 1 rfl
  have c0_2 := HB0_3.out.cell 2 rfl
  go_wp2_with fail
  refine (lnorm_ok n _ (HG.out.ext HX3.out) HN.out HZ.out).mono ?_; rintro e w4 ⟨rfl, e4⟩
  have HX4 : Hid (Ext w w4) := Lib.hid (HX3.out.trans e4)
  have HB0_4 := Lib.hid (Blk.ext HB0_3.out e4)
  have HB1_4 := Lib.hid (Blk.ext HB1_3.out e4)
  clear e4 c0_0 c0_1 c0_2
  have c0_3 := HB0_4.out.cell 3 rfl
  have c1_0 := HB1_4.out.cell 0 rfl
  have c1_1 := HB1_4.out.cell 1 rfl
  go_wp2_with fail
  refine (right15_b [o, a.x, a.y] 3 (w4.heap.size) false _ (HG.out.ext (HX4.out.alloc _)) rfl (by decide) HL3.out HRT.out (Blk.new' (w := _) (cs := #[.string o, .string a.x, .string a.y]) (t := 22) (by first | rfl | (simp only [World.size_alloc]; done) | (simp only [World.size_alloc]; omega) | simp))).mono ?_; rintro e w5 ⟨rfl, e5⟩
  have HX5 : Hid (Ext w w5) := Lib.hid ((HX4.out.alloc _).trans e5)
  have HB3_5 : Hid (Blk w5 (w4.heap.size) #[.string o, .string a.x, .string a.y] 22) := Lib.hid (Blk.ext (Blk.new' (w := _) (cs := #[.string o, .string a.x, .string a.y]) (t := 22) (by first | rfl | (simp only [World.size_alloc]; done) | (simp only [World.size_alloc]; omega) | simp)) e5)
  have HGEB3 : Hid (w.heap.size ≤ w4.heap.size) := Lib.hid (by have := HX4.out.size; first | omega | (simp only []; omega) | (simp; omega))
  clear e5 c0_3 c1_0 c1_1
  go_wp2
  go_ret
  exact ⟨rfl, HX5.out⟩

set_option maxRecDepth 100000 in
set_option maxHeartbeats 8000000 in
theorem heights15_W2 (n : V3) (o : ByteArray) (a : T2) (w : World) (g : Gd w) (hsz : [qs n.x, qs n.y, qs n.z, o, a.x, a.y].all sz24 = true) (hn : VB 200 n) (hz : ¬ (n.x = 0 ∧ n.y = 0 ∧ n.z = 0)) (hq : rq o = true) (ha : a.l.all rq = false) : Calls Tryz.prog 4 #[.agg #[.string (qs n.x), .string (qs n.y), .string (qs n.z), .string o], .agg #[.string a.x, .string a.y]] w (Ret w (.bool true)) := by
  have HN := Lib.hid hn
  have HZ := Lib.hid hz
  have HQ := Lib.hid hq
  have HAW := Lib.hid ha
  have HG := Lib.hid g
  clear hn hz hq ha g
  have HSZ := Lib.hid hsz
  simp only [List.all_cons, List.all_nil, Bool.and_true, Bool.and_eq_true, sz24_true] at hsz
  obtain ⟨s0, s1, s2, s3, s4, s5⟩ := hsz
  have HL3 : Hid (∀ (i : Nat) (hi : i < [o, a.x, a.y].length), ([o, a.x, a.y][i]).size ≤ 1000000) := Lib.hid (sizes3 (Nat.le_trans s3 (by decide)) (Nat.le_trans s4 (by decide)) (Nat.le_trans s5 (by decide)))
  have HRT : Hid ([o, a.x, a.y].all rq = false) := Lib.hid (by have h1 := HQ.out; have h2 := HAW.out; simp only [T2.l] at h2; rw [List.all_cons, h2, Bool.and_false])
  have HO : Hid (o.size ≤ 1000000) := Lib.hid (Nat.le_trans s3 (by decide))
  have HA : Hid (TS2 a) := Lib.hid ⟨(Nat.le_trans s4 (by decide)), (Nat.le_trans s5 (by decide))⟩
  clear s0 s1 s2 s3 s4 s5
  go_enter Tryz.func4, Tryz.ntmps4
  go_wp2_with fail
  refine (known15_c _ (HG.out.ext (((Ext.refl w).alloc _).alloc _))).mono ?_; rintro e w1 ⟨rfl, e1⟩
  have HX1 : Hid (Ext w w1) := Lib.hid ((((Ext.refl w).alloc _).alloc _).trans e1)
  have HB0_1 : Hid (Blk w1 (w.heap.size) #[.string (qs n.x), .string (qs n.y), .string (qs n.z), .string o] 39) := Lib.hid (Blk.ext ((Blk.new' (w := _) (cs := #[.string (qs n.x), .string (qs n.y), .string (qs n.z), .string o]) (t := 39) (by first | rfl | (simp only [World.size_alloc]; done) | (simp only [World.size_alloc]; omega) | simp)).alloc _) e1)
  have HB1_1 : Hid (Blk w1 (w.heap.size + 1) #[.string a.x, .string a.y] 24) := Lib.hid (Blk.ext (Blk.new' (w := _) (cs := #[.string a.x, .string a.y]) (t := 24) (by first | rfl | (simp only [World.size_alloc]; done) | (simp only [World.size_alloc]; omega) | simp)) e1)
  have HGEB0 : Hid (w.heap.size ≤ w.heap.size) := Lib.hid (by first | omega | (simp only []; omega) | (simp; omega))
  have HGEB1 : Hid (w.heap.size ≤ w.heap.size + 1) := Lib.hid (by first | omega | (simp only []; omega) | (simp; omega))
  clear e1
  have c0_0 := HB0_1.out.cell 0 rfl
  have c0_1 := HB0_1.out.cell 1 rfl
  have c0_2 := HB0_1.out.cell 2 rfl
  have c0_3 := HB0_1.out.cell 3 rfl
  have c1_0 := HB1_1.out.cell 0 rfl
  have c1_1 := HB1_1.out.cell 1 rfl
  go_wp2_with fail
  refine (short15_b [qs n.x, qs n.y, qs n.z, o, a.x, a.y] 6 (w1.heap.size) true _ rfl (by decide) HSZ.out (Blk.new' (w := _) (cs := #[.string (qs n.x), .string (qs n.y), .string (qs n.z), .string o, .string a.x, .string a.y]) (t := 22) (by first | rfl | (simp only [World.size_alloc]; done) | (simp only [World.size_alloc]; omega) | simp))).mono ?_; rintro e w2 ⟨rfl, e2⟩
  have HX2 : Hid (Ext w w2) := Lib.hid ((HX1.out.alloc _).trans e2)
  have HB0_2 : Hid (Blk w2 (w.heap.size) #[.string (qs n.x), .string (qs n.y), .string (qs n.z), .string o] 39) := Lib.hid (Blk.ext (HB0_1.out.alloc _) e2)
  have HB1_2 : Hid (Blk w2 (w.heap.size + 1) #[.string a.x, .string a.y] 24) := Lib.hid (Blk.ext (HB1_1.out.alloc _) e2)
  have HB2_2 : Hid (Blk w2 (w1.heap.size) #[.string (qs n.x), .string (qs n.y), .string (qs n.z), .string o, .string a.x, .string a.y] 22) := Lib.hid (Blk.ext (Blk.new' (w := _) (cs := #[.string (qs n.x), .string (qs n.y), .string (qs n.z), .string o, .string a.x, .string a.y]) (t := 22) (by first | rfl | (simp only [World.size_alloc]; done) | (simp only [World.size_alloc]; omega) | simp)) e2)
  have HGEB2 : Hid (w.heap.size ≤ w1.heap.size) := Lib.hid (by have := HX1.out.size; first | omega | (simp only []; omega) | (simp; omega))
  clear e2 c0_0 c0_1 c0_2 c0_3 c1_0 c1_1
  have c0_0 := HB0_2.out.cell 0 rfl
  have c0_1 := HB0_2.out.cell 1 rfl
  have c0_2 := HB0_2.out.cell 2 rfl
  have c0_3 := HB0_2.out.cell 3 rfl
  have c1_0 := HB1_2.out.cell 0 rfl
  have c1_1 := HB1_2.out.cell 1 rfl
  go_wp2_with fail
  refine (aheight_a n o a _ (HG.out.ext HX2.out) HN.out HZ.out HO.out HQ.out HA.out (terr_2 HAW.out)).mono ?_; rintro e w3 ⟨rfl, e3⟩
  have HX3 : Hid (Ext w w3) := Lib.hid (HX2.out.trans e3)
  have HB0_3 := Lib.hid (Blk.ext HB0_2.out e3)
  have HB1_3 := Lib.hid (Blk.ext HB1_2.out e3)
  clear e3 c0_0 c0_1 c0_2 c0_3 c1_0 c1_1
  have c0_0 := HB0_3.out.cell 0 rfl
  have c0_1 := HB0_3.out.cell 1 rfl
  have c0_2 := HB0_3.out.cell 2 rfl
  go_wp2_with fail
  refine (lnorm_ok n _ (HG.out.ext HX3.out) HN.out HZ.out).mono ?_; rintro e w4 ⟨rfl, e4⟩
  have HX4 : Hid (Ext w w4) := Lib.hid (HX3.out.trans e4)
  have HB0_4 := Lib.hid (Blk.ext HB0_3.out e4)
  have HB1_4 := Lib.hid (Blk.ext HB1_3.out e4)
  clear e4 c0_0 c0_1 c0_2
  have c0_3 := HB0_4.out.cell 3 rfl
  have c1_0 := HB1_4.out.cell 0 rfl
  have c1_1 := HB1_4.out.cell 1 rfl
  go_wp2_with fail
  refine (right15_b [o, a.x, a.y] 3 (w4.heap.size) false _ (HG.out.ext (HX4.out.alloc _)) rfl (by decide) HL3.out HRT.out (Blk.new' (w := _) (cs := #[.string o, .string a.x, .string a.y]) (t := 22) (by first | rfl | (simp only [World.size_alloc]; done) | (simp only [World.size_alloc]; omega) | simp))).mono ?_; rintro e w5 ⟨rfl, e5⟩
  have HX5 : Hid (Ext w w5) := Lib.hid ((HX4.out.alloc _).trans e5)
  have HB3_5 : Hid (Blk w5 (w4.heap.size) #[.string o, .string a.x, .string a.y] 22) := Lib.hid (Blk.ext (Blk.new' (w := _) (cs := #[.string o, .string a.x, .string a.y]) (t := 22) (by first | rfl | (simp only [World.size_alloc]; done) | (simp only [World.size_alloc]; omega) | simp)) e5)
  have HGEB3 : Hid (w.heap.size ≤ w4.heap.size) := Lib.hid (by have := HX4.out.size; first | omega | (simp only []; omega) | (simp; omega))
  clear e5 c0_3 c1_0 c1_1
  go_wp2
  go_ret
  exact ⟨rfl, HX5.out⟩

set_option maxRecDepth 100000 in
set_option maxHeartbeats 8000000 in
theorem heights15_U (n : V3) (c : Rat) (a : P2) (w : World) (g : Gd w) (hsz : [qs n.x, qs n.y, qs n.z, qs c, qs a.x, qs a.y].all sz24 = true) (hn : VB 200 n) (hz : ¬ (n.x = 0 ∧ n.y = 0 ∧ n.z = 0)) (h0 : n.z = 0) : Calls Tryz.prog 4 #[.agg #[.string (qs n.x), .string (qs n.y), .string (qs n.z), .string (qs c)], .agg #[.string (qs a.x), .string (qs a.y)]] w (Ret w (.bool true)) := by
  have HN := Lib.hid hn
  have HZ := Lib.hid hz
  have HG := Lib.hid g
  clear hn hz g
  have HSZ := Lib.hid hsz
  simp only [List.all_cons, List.all_nil, Bool.and_true, Bool.and_eq_true, sz24_true] at hsz
  obtain ⟨s0, s1, s2, s3, s4, s5⟩ := hsz
  have HN4 : Hid (VB 24 n) := Lib.hid ⟨qb_of_size s0, qb_of_size s1, qb_of_size s2⟩; have HC4 : Hid (QB 24 c) := Lib.hid (qb_of_size s3); have HA4 : Hid (PB 24 a) := Lib.hid ⟨qb_of_size s4, qb_of_size s5⟩
  have HL3 : Hid (∀ (i : Nat) (hi : i < [qs c, qs a.x, qs a.y].length), ([qs c, qs a.x, qs a.y][i]).size ≤ 1000000) := Lib.hid (sizes3 (Nat.le_trans s3 (by decide)) (Nat.le_trans s4 (by decide)) (Nat.le_trans s5 (by decide)))
  have HRT : Hid ([qs c, qs a.x, qs a.y].all rq = true) := Lib.hid (by rw [List.all_cons, List.all_cons, List.all_cons, rq_qs (HC4.out.mono (by decide)), rq_qs (HA4.out.x.mono (by decide)), rq_qs (HA4.out.y.mono (by decide))]; rfl)
  clear s0 s1 s2 s3 s4 s5
  have h0_t := qs_is0 h0
  have H0 := Lib.hid h0; clear h0
  go_enter Tryz.func4, Tryz.ntmps4
  go_wp2_with fail
  refine (known15_c _ (HG.out.ext (((Ext.refl w).alloc _).alloc _))).mono ?_; rintro e w1 ⟨rfl, e1⟩
  have HX1 : Hid (Ext w w1) := Lib.hid ((((Ext.refl w).alloc _).alloc _).trans e1)
  have HB0_1 : Hid (Blk w1 (w.heap.size) #[.string (qs n.x), .string (qs n.y), .string (qs n.z), .string (qs c)] 39) := Lib.hid (Blk.ext ((Blk.new' (w := _) (cs := #[.string (qs n.x), .string (qs n.y), .string (qs n.z), .string (qs c)]) (t := 39) (by first | rfl | (simp only [World.size_alloc]; done) | (simp only [World.size_alloc]; omega) | simp)).alloc _) e1)
  have HB1_1 : Hid (Blk w1 (w.heap.size + 1) #[.string (qs a.x), .string (qs a.y)] 24) := Lib.hid (Blk.ext (Blk.new' (w := _) (cs := #[.string (qs a.x), .string (qs a.y)]) (t := 24) (by first | rfl | (simp only [World.size_alloc]; done) | (simp only [World.size_alloc]; omega) | simp)) e1)
  have HGEB0 : Hid (w.heap.size ≤ w.heap.size) := Lib.hid (by first | omega | (simp only []; omega) | (simp; omega))
  have HGEB1 : Hid (w.heap.size ≤ w.heap.size + 1) := Lib.hid (by first | omega | (simp only []; omega) | (simp; omega))
  clear e1
  have c0_0 := HB0_1.out.cell 0 rfl
  have c0_1 := HB0_1.out.cell 1 rfl
  have c0_2 := HB0_1.out.cell 2 rfl
  have c0_3 := HB0_1.out.cell 3 rfl
  have c1_0 := HB1_1.out.cell 0 rfl
  have c1_1 := HB1_1.out.cell 1 rfl
  go_wp2_with fail
  refine (short15_b [qs n.x, qs n.y, qs n.z, qs c, qs a.x, qs a.y] 6 (w1.heap.size) true _ rfl (by decide) HSZ.out (Blk.new' (w := _) (cs := #[.string (qs n.x), .string (qs n.y), .string (qs n.z), .string (qs c), .string (qs a.x), .string (qs a.y)]) (t := 22) (by first | rfl | (simp only [World.size_alloc]; done) | (simp only [World.size_alloc]; omega) | simp))).mono ?_; rintro e w2 ⟨rfl, e2⟩
  have HX2 : Hid (Ext w w2) := Lib.hid ((HX1.out.alloc _).trans e2)
  have HB0_2 : Hid (Blk w2 (w.heap.size) #[.string (qs n.x), .string (qs n.y), .string (qs n.z), .string (qs c)] 39) := Lib.hid (Blk.ext (HB0_1.out.alloc _) e2)
  have HB1_2 : Hid (Blk w2 (w.heap.size + 1) #[.string (qs a.x), .string (qs a.y)] 24) := Lib.hid (Blk.ext (HB1_1.out.alloc _) e2)
  have HB2_2 : Hid (Blk w2 (w1.heap.size) #[.string (qs n.x), .string (qs n.y), .string (qs n.z), .string (qs c), .string (qs a.x), .string (qs a.y)] 22) := Lib.hid (Blk.ext (Blk.new' (w := _) (cs := #[.string (qs n.x), .string (qs n.y), .string (qs n.z), .string (qs c), .string (qs a.x), .string (qs a.y)]) (t := 22) (by first | rfl | (simp only [World.size_alloc]; done) | (simp only [World.size_alloc]; omega) | simp)) e2)
  have HGEB2 : Hid (w.heap.size ≤ w1.heap.size) := Lib.hid (by have := HX1.out.size; first | omega | (simp only []; omega) | (simp; omega))
  clear e2 c0_0 c0_1 c0_2 c0_3 c1_0 c1_1
  have c0_0 := HB0_2.out.cell 0 rfl
  have c0_1 := HB0_2.out.cell 1 rfl
  have c0_2 := HB0_2.out.cell 2 rfl
  have c0_3 := HB0_2.out.cell 3 rfl
  have c1_0 := HB1_2.out.cell 0 rfl
  have c1_1 := HB1_2.out.cell 1 rfl
  go_wp2_with fail
  refine (aheight_u n c a _ (HG.out.ext HX2.out) HN.out HZ.out (HC4.out.mono (by decide)) (HA4.out.mono (by decide)) H0.out).mono ?_; rintro e w3 ⟨rfl, e3⟩
  have HX3 : Hid (Ext w w3) := Lib.hid (HX2.out.trans e3)
  have HB0_3 := Lib.hid (Blk.ext HB0_2.out e3)
  have HB1_3 := Lib.hid (Blk.ext HB1_2.out e3)
  clear e3 c0_0 c0_1 c0_2 c0_3 c1_0 c1_1
  have c0_0 := HB0_3.out.cell 0 rfl
  have c0_1 := HB0_3.out.cell 1 rfl
  have c0_2 := HB0_3.out.cell 2 rfl
  go_wp2_with fail
  refine (lnorm_ok n _ (HG.out.ext HX3.out) HN.out HZ.out).mono ?_; rintro e w4 ⟨rfl, e4⟩
  have HX4 : Hid (Ext w w4) := Lib.hid (HX3.out.trans e4)
  have HB0_4 := Lib.hid (Blk.ext HB0_3.out e4)
  have HB1_4 := Lib.hid (Blk.ext HB1_3.out e4)
  clear e4 c0_0 c0_1 c0_2
  have c0_3 := HB0_4.out.cell 3 rfl
  have c1_0 := HB1_4.out.cell 0 rfl
  have c1_1 := HB1_4.out.cell 1 rfl
  go_wp2_with fail
  refine (right15_b [qs c, qs a.x, qs a.y] 3 (w4.heap.size) true _ (HG.out.ext (HX4.out.alloc _)) rfl (by decide) HL3.out HRT.out (Blk.new' (w := _) (cs := #[.string (qs c), .string (qs a.x), .string (qs a.y)]) (t := 22) (by first | rfl | (simp only [World.size_alloc]; done) | (simp only [World.size_alloc]; omega) | simp))).mono ?_; rintro e w5 ⟨rfl, e5⟩
  have HX5 : Hid (Ext w w5) := Lib.hid ((HX4.out.alloc _).trans e5)
  have HB0_5 : Hid (Blk w5 (w.heap.size) #[.string (qs n.x), .string (qs n.y), .string (qs n.z), .string (qs c)] 39) := Lib.hid (Blk.ext (HB0_4.out.alloc _) e5)
  have HB3_5 : Hid (Blk w5 (w4.heap.size) #[.string (qs c), .string (qs a.x), .string (qs a.y)] 22) := Lib.hid (Blk.ext (Blk.new' (w := _) (cs := #[.string (qs c), .string (qs a.x), .string (qs a.y)]) (t := 22) (by first | rfl | (simp only [World.size_alloc]; done) | (simp only [World.size_alloc]; omega) | simp)) e5)
  have HGEB3 : Hid (w.heap.size ≤ w4.heap.size) := Lib.hid (by have := HX4.out.size; first | omega | (simp only []; omega) | (simp; omega))
  clear e5 c0_3 c1_0 c1_1
  have c0_2 := HB0_5.out.cell 2 rfl
  go_wp2
  go_ret
  exact ⟨rfl, HX5.out⟩

set_option maxRecDepth 100000 in
set_option maxHeartbeats 8000000 in
theorem heights15_R (n : V3) (c : Rat) (a : P2) (w : World) (g : Gd w) (hsz : [qs n.x, qs n.y, qs n.z, qs c, qs a.x, qs a.y].all sz24 = true) (hn : VB 200 n) (hz : ¬ (n.x = 0 ∧ n.y = 0 ∧ n.z = 0)) (h0 : n.z ≠ 0) : Calls Tryz.prog 4 #[.agg #[.string (qs n.x), .string (qs n.y), .string (qs n.z), .string (qs c)], .agg #[.string (qs a.x), .string (qs a.y)]] w (Ret w (.bool true)) := by
  have HN := Lib.hid hn
  have HZ := Lib.hid hz
  have HG := Lib.hid g
  clear hn hz g
  have HSZ := Lib.hid hsz
  simp only [List.all_cons, List.all_nil, Bool.and_true, Bool.and_eq_true, sz24_true] at hsz
  obtain ⟨s0, s1, s2, s3, s4, s5⟩ := hsz
  have HN4 : Hid (VB 24 n) := Lib.hid ⟨qb_of_size s0, qb_of_size s1, qb_of_size s2⟩; have HC4 : Hid (QB 24 c) := Lib.hid (qb_of_size s3); have HA4 : Hid (PB 24 a) := Lib.hid ⟨qb_of_size s4, qb_of_size s5⟩
  have HL3 : Hid (∀ (i : Nat) (hi : i < [qs c, qs a.x, qs a.y].length), ([qs c, qs a.x, qs a.y][i]).size ≤ 1000000) := Lib.hid (sizes3 (Nat.le_trans s3 (by decide)) (Nat.le_trans s4 (by decide)) (Nat.le_trans s5 (by decide)))
  have HRT : Hid ([qs c, qs a.x, qs a.y].all rq = true) := Lib.hid (by rw [List.all_cons, List.all_cons, List.all_cons, rq_qs (HC4.out.mono (by decide)), rq_qs (HA4.out.x.mono (by decide)), rq_qs (HA4.out.y.mono (by decide))]; rfl)
  have HRB : Hid (QB 200 ((c - (n.x * a.x + n.y * a.y)) / n.z)) := Lib.hid (((HC4.out.sub ((HN4.out.x.mul HA4.out.x).add (HN4.out.y.mul HA4.out.y))).div HN4.out.z (by decide)).mono (by decide))
  clear s0 s1 s2 s3 s4 s5
  have h0_t := qs_not0 h0
  have H0 := Lib.hid h0; clear h0
  go_enter Tryz.func4, Tryz.ntmps4
  go_wp2_with fail
  refine (known15_c _ (HG.out.ext (((Ext.refl w).alloc _).alloc _))).mono ?_; rintro e w1 ⟨rfl, e1⟩
  have HX1 : Hid (Ext w w1) := Lib.hid ((((Ext.refl w).alloc _).alloc _).trans e1)
  have HB0_1 : Hid (Blk w1 (w.heap.size) #[.string (qs n.x), .string (qs n.y), .string (qs n.z), .string (qs c)] 39) := Lib.hid (Blk.ext ((Blk.new' (w := _) (cs := #[.string (qs n.x), .string (qs n.y), .string (qs n.z), .string (qs c)]) (t := 39) (by first | rfl | (simp only [World.size_alloc]; done) | (simp only [World.size_alloc]; omega) | simp)).alloc _) e1)
  have HB1_1 : Hid (Blk w1 (w.heap.size + 1) #[.string (qs a.x), .string (qs a.y)] 24) := Lib.hid (Blk.ext (Blk.new' (w := _) (cs := #[.string (qs a.x), .string (qs a.y)]) (t := 24) (by first | rfl | (simp only [World.size_alloc]; done) | (simp only [World.size_alloc]; omega) | simp)) e1)
  have HGEB0 : Hid (w.heap.size ≤ w.heap.size) := Lib.hid (by first | omega | (simp only []; omega) | (simp; omega))
  have HGEB1 : Hid (w.heap.size ≤ w.heap.size + 1) := Lib.hid (by first | omega | (simp only []; omega) | (simp; omega))
  clear e1
  have c0_0 := HB0_1.out.cell 0 rfl
  have c0_1 := HB0_1.out.cell 1 rfl
  have c0_2 := HB0_1.out.cell 2 rfl
  have c0_3 := HB0_1.out.cell 3 rfl
  have c1_0 := HB1_1.out.cell 0 rfl
  have c1_1 := HB1_1.out.cell 1 rfl
  go_wp2_with fail
  refine (short15_b [qs n.x, qs n.y, qs n.z, qs c, qs a.x, qs a.y] 6 (w1.heap.size) true _ rfl (by decide) HSZ.out (Blk.new' (w := _) (cs := #[.string (qs n.x), .string (qs n.y), .string (qs n.z), .string (qs c), .string (qs a.x), .string (qs a.y)]) (t := 22) (by first | rfl | (simp only [World.size_alloc]; done) | (simp only [World.size_alloc]; omega) | simp))).mono ?_; rintro e w2 ⟨rfl, e2⟩
  have HX2 : Hid (Ext w w2) := Lib.hid ((HX1.out.alloc _).trans e2)
  have HB0_2 : Hid (Blk w2 (w.heap.size) #[.string (qs n.x), .string (qs n.y), .string (qs n.z), .string (qs c)] 39) := Lib.hid (Blk.ext (HB0_1.out.alloc _) e2)
  have HB1_2 : Hid (Blk w2 (w.heap.size + 1) #[.string (qs a.x), .string (qs a.y)] 24) := Lib.hid (Blk.ext (HB1_1.out.alloc _) e2)
  have HB2_2 : Hid (Blk w2 (w1.heap.size) #[.string (qs n.x), .string (qs n.y), .string (qs n.z), .string (qs c), .string (qs a.x), .string (qs a.y)] 22) := Lib.hid (Blk.ext (Blk.new' (w := _) (cs := #[.string (qs n.x), .string (qs n.y), .string (qs n.z), .string (qs c), .string (qs a.x), .string (qs a.y)]) (t := 22) (by first | rfl | (simp only [World.size_alloc]; done) | (simp only [World.size_alloc]; omega) | simp)) e2)
  have HGEB2 : Hid (w.heap.size ≤ w1.heap.size) := Lib.hid (by have := HX1.out.size; first | omega | (simp only []; omega) | (simp; omega))
  clear e2 c0_0 c0_1 c0_2 c0_3 c1_0 c1_1
  have c0_0 := HB0_2.out.cell 0 rfl
  have c0_1 := HB0_2.out.cell 1 rfl
  have c0_2 := HB0_2.out.cell 2 rfl
  have c0_3 := HB0_2.out.cell 3 rfl
  have c1_0 := HB1_2.out.cell 0 rfl
  have c1_1 := HB1_2.out.cell 1 rfl
  go_wp2_with fail
  refine (aheight_ok n c a _ (HG.out.ext HX2.out) HN.out HN4.out HZ.out HC4.out HA4.out H0.out HRB.out).mono ?_; rintro e w3 ⟨rfl, e3⟩
  have HX3 : Hid (Ext w w3) := Lib.hid (HX2.out.trans e3)
  have HB0_3 := Lib.hid (Blk.ext HB0_2.out e3)
  have HB1_3 := Lib.hid (Blk.ext HB1_2.out e3)
  clear e3 c0_0 c0_1 c0_2 c0_3 c1_0 c1_1
  have c0_0 := HB0_3.out.cell 0 rfl
  have c0_1 := HB0_3.out.cell 1 rfl
  have c0_2 := HB0_3.out.cell 2 rfl
  go_wp2_with fail
  refine (lnorm_ok n _ (HG.out.ext HX3.out) HN.out HZ.out).mono ?_; rintro e w4 ⟨rfl, e4⟩
  have HX4 : Hid (Ext w w4) := Lib.hid (HX3.out.trans e4)
  have HB0_4 := Lib.hid (Blk.ext HB0_3.out e4)
  have HB1_4 := Lib.hid (Blk.ext HB1_3.out e4)
  clear e4 c0_0 c0_1 c0_2
  have c0_3 := HB0_4.out.cell 3 rfl
  have c1_0 := HB1_4.out.cell 0 rfl
  have c1_1 := HB1_4.out.cell 1 rfl
  go_wp2_with fail
  refine (right15_b [qs c, qs a.x, qs a.y] 3 (w4.heap.size) true _ (HG.out.ext (HX4.out.alloc _)) rfl (by decide) HL3.out HRT.out (Blk.new' (w := _) (cs := #[.string (qs c), .string (qs a.x), .string (qs a.y)]) (t := 22) (by first | rfl | (simp only [World.size_alloc]; done) | (simp only [World.size_alloc]; omega) | simp))).mono ?_; rintro e w5 ⟨rfl, e5⟩
  have HX5 : Hid (Ext w w5) := Lib.hid ((HX4.out.alloc _).trans e5)
  have HB0_5 : Hid (Blk w5 (w.heap.size) #[.string (qs n.x), .string (qs n.y), .string (qs n.z), .string (qs c)] 39) := Lib.hid (Blk.ext (HB0_4.out.alloc _) e5)
  have HB1_5 : Hid (Blk w5 (w.heap.size + 1) #[.string (qs a.x), .string (qs a.y)] 24) := Lib.hid (Blk.ext (HB1_4.out.alloc _) e5)
  have HB3_5 : Hid (Blk w5 (w4.heap.size) #[.string (qs c), .string (qs a.x), .string (qs a.y)] 22) := Lib.hid (Blk.ext (Blk.new' (w := _) (cs := #[.string (qs c), .string (qs a.x), .string (qs a.y)]) (t := 22) (by first | rfl | (simp only [World.size_alloc]; done) | (simp only [World.size_alloc]; omega) | simp)) e5)
  have HGEB3 : Hid (w.heap.size ≤ w4.heap.size) := Lib.hid (by have := HX4.out.size; first | omega | (simp only []; omega) | (simp; omega))
  clear e5 c0_3 c1_0 c1_1
  have c0_2 := HB0_5.out.cell 2 rfl
  go_wp2_with fail
  refine wp_name (fun W => Ext w W ∧ Blk W (w.heap.size) #[.string (qs n.x), .string (qs n.y), .string (qs n.z), .string (qs c)] 39 ∧ Blk W (w.heap.size + 1) #[.string (qs a.x), .string (qs a.y)] 24) ⟨HX5.out, HB0_5.out, HB1_5.out⟩ ?_
  rintro w6 ⟨e6, bB0_6, bB1_6⟩
  have HX6 := Lib.hid e6; have HB0_6 := Lib.hid bB0_6; have HB1_6 := Lib.hid bB1_6
  clear e6 bB0_6 bB1_6 c0_2
  refine region_lin [.val (.pointer (some ⟨w.heap.size, 3, none⟩)), .val (.string (qs c)), .val (.pointer (some ⟨w.heap.size, 0, none⟩)), .val (.pointer (some ⟨w.heap.size, 0, none⟩)), .val (.string (qs n.x)), .val (.pointer (some ⟨w.heap.size + 1, 0, none⟩)), .val (.string (qs a.x)), .val (.string (qs (n.x * a.x))), .val (.pointer (some ⟨w.heap.size, 0, none⟩)), .val (.pointer (some ⟨w.heap.size, 1, none⟩)), .val (.string (qs n.y)), .val (.pointer (some ⟨w.heap.size + 1, 1, none⟩)), .val (.string (qs a.y)), .val (.string (qs (n.y * a.y))), .val (.string (qs (n.x * a.x + n.y * a.y))), .val (.string (qs (c - (n.x * a.x + n.y * a.y)))), .val (.string (qs (c - (n.x * a.x + n.y * a.y))))] (by kernel_rfl) (by kernel_rfl) (by kernel_rfl) ?_ (fun g6 w7 hx_ hm_ hne_ => ?_)
  · skip
    refine RnL.cons (fun g6 A_ W_ hs_ => ?_) ?_
    · have q2_ := (hs_.old 2 (by kernel_rfl) : A_.tmps[2]?.getD undef = .pointer (some ⟨w.heap.size, 0, none⟩))
      refine Rn.val fun K_ hK_ => ?_
      go_simp
      exact hK_.out _ (Ext.refl _)
    refine RnL.cons (fun g6 A_ W_ hs_ => ?_) ?_
    · have q71_ := hs_.val 0 rfl rfl rfl
      have cB0_3 := ((HB0_6.out.drew.ext hs_.1)).cell 3 rfl
      refine Rn.val fun K_ hK_ => ?_
      go_simp
      exact hK_.out _ (Ext.refl _)
    refine RnL.cons (fun g6 A_ W_ hs_ => ?_) ?_
    · have q2_ := (hs_.old 2 (by kernel_rfl) : A_.tmps[2]?.getD undef = .pointer (some ⟨w.heap.size, 0, none⟩))
      refine Rn.val fun K_ hK_ => ?_
      go_simp
      exact hK_.out _ (Ext.refl _)
    refine RnL.cons (fun g6 A_ W_ hs_ => ?_) ?_
    · have q73_ := hs_.val 2 rfl rfl rfl
      refine Rn.val fun K_ hK_ => ?_
      go_simp
      exact hK_.out _ (Ext.refl _)
    refine RnL.cons (fun g6 A_ W_ hs_ => ?_) ?_
    · have q74_ := hs_.val 3 rfl rfl rfl
      have cB0_0 := ((HB0_6.out.drew.ext hs_.1)).cell 0 rfl
      refine Rn.val fun K_ hK_ => ?_
      go_simp
      exact hK_.out _ (Ext.refl _)
    refine RnL.cons (fun g6 A_ W_ hs_ => ?_) ?_
    · have q3_ := (hs_.old 3 (by kernel_rfl) : A_.tmps[3]?.getD undef = .pointer (some ⟨w.heap.size + 1, 0, none⟩))
      refine Rn.val fun K_ hK_ => ?_
      go_simp
      exact hK_.out _ (Ext.refl _)
    refine RnL.cons (fun g6 A_ W_ hs_ => ?_) ?_
    · have q76_ := hs_.val 5 rfl rfl rfl
      have cB1_0 := ((HB1_6.out.drew.ext hs_.1)).cell 0 rfl
      refine Rn.val fun K_ hK_ => ?_
      go_simp
      exact hK_.out _ (Ext.refl _)
    refine RnL.cons (fun g6 A_ W_ hs_ => ?_) ?_
    · have q75_ := hs_.val 4 rfl rfl rfl
      have q77_ := hs_.val 6 rfl rfl rfl
      refine Rn.val fun K_ hK_ => ?_
      go_simp
      refine (rmul_c n.x a.x _ (HG.out.ext (HX6.out.drew.trans hs_.1)) HN4.out.x HA4.out.x (by omega) (by omega)).mono ?_; rintro e W9_ ⟨rfl, e9_⟩; exact hK_.out _ e9_
    refine RnL.cons (fun g6 A_ W_ hs_ => ?_) ?_
    · have q2_ := (hs_.old 2 (by kernel_rfl) : A_.tmps[2]?.getD undef = .pointer (some ⟨w.heap.size, 0, none⟩))
      refine Rn.val fun K_ hK_ => ?_
      go_simp
      exact hK_.out _ (Ext.refl _)
    refine RnL.cons (fun g6 A_ W_ hs_ => ?_) ?_
    · have q79_ := hs_.val 8 rfl rfl rfl
      refine Rn.val fun K_ hK_ => ?_
      go_simp
      exact hK_.out _ (Ext.refl _)
    refine RnL.cons (fun g6 A_ W_ hs_ => ?_) ?_
    · have q80_ := hs_.val 9 rfl rfl rfl
      have cB0_1 := ((HB0_6.out.drew.ext hs_.1)).cell 1 rfl
      refine Rn.val fun K_ hK_ => ?_
      go_simp
      exact hK_.out _ (Ext.refl _)
    refine RnL.cons (fun g6 A_ W_ hs_ => ?_) ?_
    · have q3_ := (hs_.old 3 (by kernel_rfl) : A_.tmps[3]?.getD undef = .pointer (some ⟨w.heap.size + 1, 0, none⟩))
      refine Rn.val fun K_ hK_ => ?_
      go_simp
      exact hK_.out _ (Ext.refl _)
    refine RnL.cons (fun g6 A_ W_ hs_ => ?_) ?_
    · have q82_ := hs_.val 11 rfl rfl rfl
      have cB1_1 := ((HB1_6.out.drew.ext hs_.1)).cell 1 rfl
      refine Rn.val fun K_ hK_ => ?_
      go_simp
      exact hK_.out _ (Ext.refl _)
    refine RnL.cons (fun g6 A_ W_ hs_ => ?_) ?_
    · have q81_ := hs_.val 10 rfl rfl rfl
      have q83_ := hs_.val 12 rfl rfl rfl
      refine Rn.val fun K_ hK_ => ?_
      go_simp
      refine (rmul_c n.y a.y _ (HG.out.ext (HX6.out.drew.trans hs_.1)) HN4.out.y HA4.out.y (by omega) (by omega)).mono ?_; rintro e W9_ ⟨rfl, e9_⟩; exact hK_.out _ e9_
    refine RnL.cons (fun g6 A_ W_ hs_ => ?_) ?_
    · have q78_ := hs_.val 7 rfl rfl rfl
      have q84_ := hs_.val 13 rfl rfl rfl
      refine Rn.val fun K_ hK_ => ?_
      go_simp
      refine (radd_c (n.x * a.x) (n.y * a.y) _ (HG.out.ext (HX6.out.drew.trans hs_.1)) (HN4.out.x.mul HA4.out.x) (HN4.out.y.mul HA4.out.y) (by omega) (by omega)).mono ?_; rintro e W9_ ⟨rfl, e9_⟩; exact hK_.out _ e9_
    refine RnL.cons (fun g6 A_ W_ hs_ => ?_) ?_
    · have q72_ := hs_.val 1 rfl rfl rfl
      have q85_ := hs_.val 14 rfl rfl rfl
      refine Rn.val fun K_ hK_ => ?_
      go_simp
      refine (rsub_c c (n.x * a.x + n.y * a.y) _ (HG.out.ext (HX6.out.drew.trans hs_.1)) HC4.out ((HN4.out.x.mul HA4.out.x).add (HN4.out.y.mul HA4.out.y)) (by omega) (by omega)).mono ?_; rintro e W9_ ⟨rfl, e9_⟩; exact hK_.out _ e9_
    refine RnL.cons (fun g6 A_ W_ hs_ => ?_) ?_
    · have q86_ := hs_.val 15 rfl rfl rfl
      refine Rn.val fun K_ hK_ => ?_
      go_simp
      exact hK_.out _ (Ext.refl _)
    exact RnL.nil
  simp only [fs, Kd.value, puts, Act.put, List.setIfInBounds_toArray, List.set_cons_zero, List.set_cons_succ]
  have HX7 : Hid (Ext w w7) := Lib.hid (HX6.out.drew.trans hx_)
  have HB0_7 := Lib.hid (HB0_6.out.drew.ext hx_)
  clear hx_ hm_ hne_
  have c0_2 := HB0_7.out.cell 2 rfl
  go_wp2_with fail
  refine (ldiv_c (c - (n.x * a.x + n.y * a.y)) n.z _ (HG.out.ext HX7.out) (HC4.out.sub ((HN4.out.x.mul HA4.out.x).add (HN4.out.y.mul HA4.out.y))) HN4.out.z (by omega) (by omega) (by omega) H0.out).mono ?_; rintro e w8 ⟨rfl, e8⟩
  have HX8 : Hid (Ext w w8) := Lib.hid (HX7.out.trans e8)
  clear e8 c0_2
  go_wp2
  go_ret
  exact ⟨rfl, HX8.out⟩

theorem heights15_walk (n : T3) (o : ByteArray) (a : T2) (w : World) (g : Gd w) : Calls Tryz.prog 4 #[.agg #[.string n.x, .string n.y, .string n.z, .string o], tp a] w (Ret w (.bool true)) := by
  cases hs : [n.x, n.y, n.z, o, a.x, a.y].all sz24 with
  | false => exact heights15_L n o a w g hs
  | true =>
    cases r : n.l.all rq with
    | false => exact heights15_E n o a w g hs r
    | true =>
      obtain ⟨v, rfl, hv⟩ := right_v r
      by_cases hz : v.x = 0 ∧ v.y = 0 ∧ v.z = 0
      · exact heights15_Z v o a w g hs hv hz
      · cases ho : rq o with
        | false => exact heights15_W1 v o a w g hs hv hz ho
        | true =>
          cases ha : a.l.all rq with
          | false => exact heights15_W2 v o a w g hs hv hz ho ha
          | true =>
            obtain ⟨c, rfl, hc⟩ := right_q ho
            obtain ⟨p, rfl, hp⟩ := right_p ha
            by_cases h0 : v.z = 0
            · exact heights15_U v c p w g hs hv hz h0
            · exact heights15_R v c p w g hs hv hz h0
end Go.Proofs.YtplimbgaoengfaaGreatDoor
