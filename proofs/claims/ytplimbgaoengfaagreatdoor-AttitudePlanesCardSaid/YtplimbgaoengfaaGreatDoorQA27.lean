/- Part 27 of the proof: N5. -/
import Derived.Test.YtplimbgaoengfaaGreatDoorQA1
import Derived.Test.YtplimbgaoengfaaGreatDoorQA2
import Derived.Test.YtplimbgaoengfaaGreatDoorQA3
import Derived.Test.YtplimbgaoengfaaGreatDoorQA4
import Derived.Test.YtplimbgaoengfaaGreatDoorQA5
import Derived.Test.YtplimbgaoengfaaGreatDoorQA6
import Derived.Test.YtplimbgaoengfaaGreatDoorQA7
import Derived.Test.YtplimbgaoengfaaGreatDoorQA8
import Derived.Test.YtplimbgaoengfaaGreatDoorQA9
import Derived.Test.YtplimbgaoengfaaGreatDoorQA10
import Derived.Test.YtplimbgaoengfaaGreatDoorQA11
import Derived.Test.YtplimbgaoengfaaGreatDoorQA12
import Derived.Test.YtplimbgaoengfaaGreatDoorQA13
import Derived.Test.YtplimbgaoengfaaGreatDoorQA14
import Derived.Test.YtplimbgaoengfaaGreatDoorQA15
import Derived.Test.YtplimbgaoengfaaGreatDoorQA16
import Derived.Test.YtplimbgaoengfaaGreatDoorQA17
import Derived.Test.YtplimbgaoengfaaGreatDoorQA18
import Derived.Test.YtplimbgaoengfaaGreatDoorQA19
import Derived.Test.YtplimbgaoengfaaGreatDoorQA20
import Derived.Test.YtplimbgaoengfaaGreatDoorQA21
import Derived.Test.YtplimbgaoengfaaGreatDoorQA22
import Derived.Test.YtplimbgaoengfaaGreatDoorQA23
import Derived.Test.YtplimbgaoengfaaGreatDoorQA24
import Derived.Test.YtplimbgaoengfaaGreatDoorQA25
import Derived.Test.YtplimbgaoengfaaGreatDoorQA26
namespace Go.Proofs.YtplimbgaoengfaaGreatDoor
open Go Go.RowKit
set_option maxRecDepth 100000 in
set_option maxHeartbeats 8000000 in
theorem planes15_L (n : T3) (w : World) (g : Gd w) (hsz : [n.x, n.y, n.z].all sz24 = false) : Calls Tryz.prog 5 #[.agg #[.string n.x, .string n.y, .string n.z]] w (Ret w (.bool true)) := by
  have HG := Lib.hid g
  clear g
  have HSZ := Lib.hid hsz
  clear hsz
  go_enter Tryz.func5, Tryz.ntmps5
  go_wp2_with fail
  refine (known15_c _ (HG.out.ext ((Ext.refl w).alloc _))).mono ?_; rintro e w1 ⟨rfl, e1⟩
  have HX1 : Hid (Ext w w1) := Lib.hid (((Ext.refl w).alloc _).trans e1)
  have HB0_1 : Hid (Blk w1 (w.heap.size) #[.string n.x, .string n.y, .string n.z] 37) := Lib.hid (Blk.ext (Blk.new' (w := _) (cs := #[.string n.x, .string n.y, .string n.z]) (t := 37) (by first | rfl | (simp only [World.size_alloc]; done) | (simp only [World.size_alloc]; omega) | simp)) e1)
  have HGEB0 : Hid (w.heap.size ≤ w.heap.size) := Lib.hid (by first | omega | (simp only []; omega) | (simp; omega))
  clear e1
  have c0_0 := HB0_1.out.cell 0 rfl
  have c0_1 := HB0_1.out.cell 1 rfl
  have c0_2 := HB0_1.out.cell 2 rfl
  go_wp2_with fail
  refine (short15_b [n.x, n.y, n.z] 3 (w1.heap.size) false _ rfl (by decide) HSZ.out (Blk.new' (w := _) (cs := #[.string n.x, .string n.y, .string n.z]) (t := 22) (by first | rfl | (simp only [World.size_alloc]; done) | (simp only [World.size_alloc]; omega) | simp))).mono ?_; rintro e w2 ⟨rfl, e2⟩
  have HX2 : Hid (Ext w w2) := Lib.hid ((HX1.out.alloc _).trans e2)
  have HB1_2 : Hid (Blk w2 (w1.heap.size) #[.string n.x, .string n.y, .string n.z] 22) := Lib.hid (Blk.ext (Blk.new' (w := _) (cs := #[.string n.x, .string n.y, .string n.z]) (t := 22) (by first | rfl | (simp only [World.size_alloc]; done) | (simp only [World.size_alloc]; omega) | simp)) e2)
  have HGEB1 : Hid (w.heap.size ≤ w1.heap.size) := Lib.hid (by have := HX1.out.size; first | omega | (simp only []; omega) | (simp; omega))
  clear e2 c0_0 c0_1 c0_2
  go_wp2_with fail
  refine (known15_c _ (HG.out.ext HX2.out)).mono ?_; rintro e w3 ⟨rfl, e3⟩
  have HX3 : Hid (Ext w w3) := Lib.hid (HX2.out.trans e3)
  clear e3
  go_wp2
  go_ret
  exact ⟨rfl, HX3.out⟩

set_option maxRecDepth 100000 in
set_option maxHeartbeats 8000000 in
theorem planes15_E0 (n : T3) (w : World) (g : Gd w) (hsz : [n.x, n.y, n.z].all sz24 = true) (hr : n.l.all rq = false) (hx : (n.x.toList == [48]) = false) (zb : Bool) (hz : (n.z.toList == [48]) = zb) : Calls Tryz.prog 5 #[.agg #[.string n.x, .string n.y, .string n.z]] w (Ret w (.bool true)) := by
  have HR := Lib.hid hr
  have HX := Lib.hid hx
  have HZB := Lib.hid hz
  have HG := Lib.hid g
  clear hr hx hz g
  have HSZ := Lib.hid hsz
  simp only [List.all_cons, List.all_nil, Bool.and_true, Bool.and_eq_true, sz24_true] at hsz
  obtain ⟨s0, s1, s2⟩ := hsz
  have HE : Hid (terr n.l = 2) := Lib.hid (terr_2 HR.out)
  have HN : Hid (TS n) := Lib.hid ⟨(Nat.le_trans s0 (by decide)), (Nat.le_trans s1 (by decide)), (Nat.le_trans s2 (by decide))⟩
  clear s0 s1 s2
  go_enter Tryz.func5, Tryz.ntmps5
  go_wp2_with fail
  refine (known15_c _ (HG.out.ext ((Ext.refl w).alloc _))).mono ?_; rintro e w1 ⟨rfl, e1⟩
  have HX1 : Hid (Ext w w1) := Lib.hid (((Ext.refl w).alloc _).trans e1)
  have HB0_1 : Hid (Blk w1 (w.heap.size) #[.string n.x, .string n.y, .string n.z] 37) := Lib.hid (Blk.ext (Blk.new' (w := _) (cs := #[.string n.x, .string n.y, .string n.z]) (t := 37) (by first | rfl | (simp only [World.size_alloc]; done) | (simp only [World.size_alloc]; omega) | simp)) e1)
  have HGEB0 : Hid (w.heap.size ≤ w.heap.size) := Lib.hid (by first | omega | (simp only []; omega) | (simp; omega))
  clear e1
  have c0_0 := HB0_1.out.cell 0 rfl
  have c0_1 := HB0_1.out.cell 1 rfl
  have c0_2 := HB0_1.out.cell 2 rfl
  go_wp2_with fail
  refine (short15_b [n.x, n.y, n.z] 3 (w1.heap.size) true _ rfl (by decide) HSZ.out (Blk.new' (w := _) (cs := #[.string n.x, .string n.y, .string n.z]) (t := 22) (by first | rfl | (simp only [World.size_alloc]; done) | (simp only [World.size_alloc]; omega) | simp))).mono ?_; rintro e w2 ⟨rfl, e2⟩
  have HX2 : Hid (Ext w w2) := Lib.hid ((HX1.out.alloc _).trans e2)
  have HB0_2 : Hid (Blk w2 (w.heap.size) #[.string n.x, .string n.y, .string n.z] 37) := Lib.hid (Blk.ext (HB0_1.out.alloc _) e2)
  have HB1_2 : Hid (Blk w2 (w1.heap.size) #[.string n.x, .string n.y, .string n.z] 22) := Lib.hid (Blk.ext (Blk.new' (w := _) (cs := #[.string n.x, .string n.y, .string n.z]) (t := 22) (by first | rfl | (simp only [World.size_alloc]; done) | (simp only [World.size_alloc]; omega) | simp)) e2)
  have HGEB1 : Hid (w.heap.size ≤ w1.heap.size) := Lib.hid (by have := HX1.out.size; first | omega | (simp only []; omega) | (simp; omega))
  clear e2 c0_0 c0_1 c0_2
  have c0_0 := HB0_2.out.cell 0 rfl
  have c0_1 := HB0_2.out.cell 1 rfl
  have c0_2 := HB0_2.out.cell 2 rfl
  go_wp2_with fail
  refine (aover_e n _ (HG.out.ext HX2.out) HN.out HE.out).mono ?_; rintro e w3 ⟨rfl, e3⟩
  have HX3 : Hid (Ext w w3) := Lib.hid (HX2.out.trans e3)
  have HB0_3 := Lib.hid (Blk.ext HB0_2.out e3)
  clear e3 c0_0 c0_1 c0_2
  have c0_0 := HB0_3.out.cell 0 rfl
  have c0_1 := HB0_3.out.cell 1 rfl
  have c0_2 := HB0_3.out.cell 2 rfl
  go_wp2_with fail
  refine (ahor_e0 n _ (HG.out.ext HX3.out) HN.out HE.out HX.out).mono ?_; rintro e w4 ⟨rfl, e4⟩
  have HX4 : Hid (Ext w w4) := Lib.hid (HX3.out.trans e4)
  have HB0_4 := Lib.hid (Blk.ext HB0_3.out e4)
  clear e4 c0_0 c0_1 c0_2
  have c0_0 := HB0_4.out.cell 0 rfl
  have c0_1 := HB0_4.out.cell 1 rfl
  have c0_2 := HB0_4.out.cell 2 rfl
  go_wp2_with fail
  refine (avert_e n zb _ (HG.out.ext HX4.out) HN.out HE.out HZB.out).mono ?_; rintro e w5 ⟨rfl, e5⟩
  have HX5 : Hid (Ext w w5) := Lib.hid (HX4.out.trans e5)
  have HB0_5 := Lib.hid (Blk.ext HB0_4.out e5)
  clear e5 c0_0 c0_1 c0_2
  have c0_0 := HB0_5.out.cell 0 rfl
  have c0_1 := HB0_5.out.cell 1 rfl
  have c0_2 := HB0_5.out.cell 2 rfl
  go_wp2_with fail
  refine (lnorm_e n _ (HG.out.ext HX5.out) HN.out HR.out).mono ?_; rintro e w6 ⟨rfl, e6⟩
  have HX6 : Hid (Ext w w6) := Lib.hid (HX5.out.trans e6)
  clear e6 c0_0 c0_1 c0_2
  go_wp2
  go_ret
  exact ⟨rfl, HX6.out⟩

set_option maxRecDepth 100000 in
set_option maxHeartbeats 8000000 in
theorem planes15_E1 (n : T3) (w : World) (g : Gd w) (hsz : [n.x, n.y, n.z].all sz24 = true) (hr : n.l.all rq = false) (hx : (n.x.toList == [48]) = true) (yb : Bool) (hy : (n.y.toList == [48]) = yb) (zb : Bool) (hz : (n.z.toList == [48]) = zb) : Calls Tryz.prog 5 #[.agg #[.string n.x, .string n.y, .string n.z]] w (Ret w (.bool true)) := by
  have HR := Lib.hid hr
  have HX := Lib.hid hx
  have HZB := Lib.hid hz
  have HY := Lib.hid hy
  have HG := Lib.hid g
  clear hr hx hz hy g
  have HSZ := Lib.hid hsz
  simp only [List.all_cons, List.all_nil, Bool.and_true, Bool.and_eq_true, sz24_true] at hsz
  obtain ⟨s0, s1, s2⟩ := hsz
  have HE : Hid (terr n.l = 2) := Lib.hid (terr_2 HR.out)
  have HN : Hid (TS n) := Lib.hid ⟨(Nat.le_trans s0 (by decide)), (Nat.le_trans s1 (by decide)), (Nat.le_trans s2 (by decide))⟩
  clear s0 s1 s2
  go_enter Tryz.func5, Tryz.ntmps5
  go_wp2_with fail
  refine (known15_c _ (HG.out.ext ((Ext.refl w).alloc _))).mono ?_; rintro e w1 ⟨rfl, e1⟩
  have HX1 : Hid (Ext w w1) := Lib.hid (((Ext.refl w).alloc _).trans e1)
  have HB0_1 : Hid (Blk w1 (w.heap.size) #[.string n.x, .string n.y, .string n.z] 37) := Lib.hid (Blk.ext (Blk.new' (w := _) (cs := #[.string n.x, .string n.y, .string n.z]) (t := 37) (by first | rfl | (simp only [World.size_alloc]; done) | (simp only [World.size_alloc]; omega) | simp)) e1)
  have HGEB0 : Hid (w.heap.size ≤ w.heap.size) := Lib.hid (by first | omega | (simp only []; omega) | (simp; omega))
  clear e1
  have c0_0 := HB0_1.out.cell 0 rfl
  have c0_1 := HB0_1.out.cell 1 rfl
  have c0_2 := HB0_1.out.cell 2 rfl
  go_wp2_with fail
  refine (short15_b [n.x, n.y, n.z] 3 (w1.heap.size) true _ rfl (by decide) HSZ.out (Blk.new' (w := _) (cs := #[.string n.x, .string n.y, .string n.z]) (t := 22) (by first | rfl | (simp only [World.size_alloc]; done) | (simp only [World.size_alloc]; omega) | simp))).mono ?_; rintro e w2 ⟨rfl, e2⟩
  have HX2 : Hid (Ext w w2) := Lib.hid ((HX1.out.alloc _).trans e2)
  have HB0_2 : Hid (Blk w2 (w.heap.size) #[.string n.x, .string n.y, .string n.z] 37) := Lib.hid (Blk.ext (HB0_1.out.alloc _) e2)
  have HB1_2 : Hid (Blk w2 (w1.heap.size) #[.string n.x, .string n.y, .string n.z] 22) := Lib.hid (Blk.ext (Blk.new' (w := _) (cs := #[.string n.x, .string n.y, .string n.z]) (t := 22) (by first | rfl | (simp only [World.size_alloc]; done) | (simp only [World.size_alloc]; omega) | simp)) e2)
  have HGEB1 : Hid (w.heap.size ≤ w1.heap.size) := Lib.hid (by have := HX1.out.size; first | omega | (simp only []; omega) | (simp; omega))
  clear e2 c0_0 c0_1 c0_2
  have c0_0 := HB0_2.out.cell 0 rfl
  have c0_1 := HB0_2.out.cell 1 rfl
  have c0_2 := HB0_2.out.cell 2 rfl
  go_wp2_with fail
  refine (aover_e n _ (HG.out.ext HX2.out) HN.out HE.out).mono ?_; rintro e w3 ⟨rfl, e3⟩
  have HX3 : Hid (Ext w w3) := Lib.hid (HX2.out.trans e3)
  have HB0_3 := Lib.hid (Blk.ext HB0_2.out e3)
  clear e3 c0_0 c0_1 c0_2
  have c0_0 := HB0_3.out.cell 0 rfl
  have c0_1 := HB0_3.out.cell 1 rfl
  have c0_2 := HB0_3.out.cell 2 rfl
  go_wp2_with fail
  refine (ahor_e1 n yb _ (HG.out.ext HX3.out) HN.out HE.out HX.out HY.out).mono ?_; rintro e w4 ⟨rfl, e4⟩
  have HX4 : Hid (Ext w w4) := Lib.hid (HX3.out.trans e4)
  have HB0_4 := Lib.hid (Blk.ext HB0_3.out e4)
  clear e4 c0_0 c0_1 c0_2
  have c0_0 := HB0_4.out.cell 0 rfl
  have c0_1 := HB0_4.out.cell 1 rfl
  have c0_2 := HB0_4.out.cell 2 rfl
  go_wp2_with fail
  refine (avert_e n zb _ (HG.out.ext HX4.out) HN.out HE.out HZB.out).mono ?_; rintro e w5 ⟨rfl, e5⟩
  have HX5 : Hid (Ext w w5) := Lib.hid (HX4.out.trans e5)
  have HB0_5 := Lib.hid (Blk.ext HB0_4.out e5)
  clear e5 c0_0 c0_1 c0_2
  have c0_0 := HB0_5.out.cell 0 rfl
  have c0_1 := HB0_5.out.cell 1 rfl
  have c0_2 := HB0_5.out.cell 2 rfl
  go_wp2_with fail
  refine (lnorm_e n _ (HG.out.ext HX5.out) HN.out HR.out).mono ?_; rintro e w6 ⟨rfl, e6⟩
  have HX6 : Hid (Ext w w6) := Lib.hid (HX5.out.trans e6)
  clear e6 c0_0 c0_1 c0_2
  go_wp2
  go_ret
  exact ⟨rfl, HX6.out⟩

set_option maxRecDepth 100000 in
set_option maxHeartbeats 8000000 in
theorem planes15_Z (n : V3) (w : World) (g : Gd w) (hsz : [qs n.x, qs n.y, qs n.z].all sz24 = true) (hn : VB 200 n) (hz : n.x = 0 ∧ n.y = 0 ∧ n.z = 0) : Calls Tryz.prog 5 #[.agg #[.string (qs n.x), .string (qs n.y), .string (qs n.z)]] w (Ret w (.bool true)) := by
  have HN := Lib.hid hn
  have HZ := Lib.hid hz
  have HG := Lib.hid g
  clear hn hz g
  have HSZ := Lib.hid hsz; clear hsz
  go_enter Tryz.func5, Tryz.ntmps5
  go_wp2_with fail
  refine (known15_c _ (HG.out.ext ((Ext.refl w).alloc _))).mono ?_; rintro e w1 ⟨rfl, e1⟩
  have HX1 : Hid (Ext w w1) := Lib.hid (((Ext.refl w).alloc _).trans e1)
  have HB0_1 : Hid (Blk w1 (w.heap.size) #[.string (qs n.x), .string (qs n.y), .string (qs n.z)] 37) := Lib.hid (Blk.ext (Blk.new' (w := _) (cs := #[.string (qs n.x), .string (qs n.y), .string (qs n.z)]) (t := 37) (by first | rfl | (simp only [World.size_alloc]; done) | (simp only [World.size_alloc]; omega) | simp)) e1)
  have HGEB0 : Hid (w.heap.size ≤ w.heap.size) := Lib.hid (by first | omega | (simp only []; omega) | (simp; omega))
  clear e1
  have c0_0 := HB0_1.out.cell 0 rfl
  have c0_1 := HB0_1.out.cell 1 rfl
  have c0_2 := HB0_1.out.cell 2 rfl
  go_wp2_with fail
  refine (short15_b [qs n.x, qs n.y, qs n.z] 3 (w1.heap.size) true _ rfl (by decide) HSZ.out (Blk.new' (w := _) (cs := #[.string (qs n.x), .string (qs n.y), .string (qs n.z)]) (t := 22) (by first | rfl | (simp only [World.size_alloc]; done) | (simp only [World.size_alloc]; omega) | simp))).mono ?_; rintro e w2 ⟨rfl, e2⟩
  have HX2 : Hid (Ext w w2) := Lib.hid ((HX1.out.alloc _).trans e2)
  have HB0_2 : Hid (Blk w2 (w.heap.size) #[.string (qs n.x), .string (qs n.y), .string (qs n.z)] 37) := Lib.hid (Blk.ext (HB0_1.out.alloc _) e2)
  have HB1_2 : Hid (Blk w2 (w1.heap.size) #[.string (qs n.x), .string (qs n.y), .string (qs n.z)] 22) := Lib.hid (Blk.ext (Blk.new' (w := _) (cs := #[.string (qs n.x), .string (qs n.y), .string (qs n.z)]) (t := 22) (by first | rfl | (simp only [World.size_alloc]; done) | (simp only [World.size_alloc]; omega) | simp)) e2)
  have HGEB1 : Hid (w.heap.size ≤ w1.heap.size) := Lib.hid (by have := HX1.out.size; first | omega | (simp only []; omega) | (simp; omega))
  clear e2 c0_0 c0_1 c0_2
  have c0_0 := HB0_2.out.cell 0 rfl
  have c0_1 := HB0_2.out.cell 1 rfl
  have c0_2 := HB0_2.out.cell 2 rfl
  go_wp2_with fail
  refine (aover_z n _ (HG.out.ext HX2.out) HN.out HZ.out).mono ?_; rintro e w3 ⟨rfl, e3⟩
  have HX3 : Hid (Ext w w3) := Lib.hid (HX2.out.trans e3)
  have HB0_3 := Lib.hid (Blk.ext HB0_2.out e3)
  clear e3 c0_0 c0_1 c0_2
  have c0_0 := HB0_3.out.cell 0 rfl
  have c0_1 := HB0_3.out.cell 1 rfl
  have c0_2 := HB0_3.out.cell 2 rfl
  go_wp2_with fail
  refine (ahor_z n _ (HG.out.ext HX3.out) HN.out HZ.out).mono ?_; rintro e w4 ⟨rfl, e4⟩
  have HX4 : Hid (Ext w w4) := Lib.hid (HX3.out.trans e4)
  have HB0_4 := Lib.hid (Blk.ext HB0_3.out e4)
  clear e4 c0_0 c0_1 c0_2
  have c0_0 := HB0_4.out.cell 0 rfl
  have c0_1 := HB0_4.out.cell 1 rfl
  have c0_2 := HB0_4.out.cell 2 rfl
  go_wp2_with fail
  refine (avert_z n _ (HG.out.ext HX4.out) HN.out HZ.out).mono ?_; rintro e w5 ⟨rfl, e5⟩
  have HX5 : Hid (Ext w w5) := Lib.hid (HX4.out.trans e5)
  have HB0_5 := Lib.hid (Blk.ext HB0_4.out e5)
  clear e5 c0_0 c0_1 c0_2
  have c0_0 := HB0_5.out.cell 0 rfl
  have c0_1 := HB0_5.out.cell 1 rfl
  have c0_2 := HB0_5.out.cell 2 rfl
  go_wp2_with fail
  refine (lnorm_z n _ (HG.out.ext HX5.out) HN.out HZ.out.1 HZ.out.2.1 HZ.out.2.2).mono ?_; rintro e w6 ⟨rfl, e6⟩
  have HX6 : Hid (Ext w w6) := Lib.hid (HX5.out.trans e6)
  clear e6 c0_0 c0_1 c0_2
  go_wp2
  go_ret
  exact ⟨rfl, HX6.out⟩

set_option maxRecDepth 100000 in
set_option maxHeartbeats 8000000 in
theorem planes15_R0 (n : V3) (w : World) (g : Gd w) (hsz : [qs n.x, qs n.y, qs n.z].all sz24 = true) (hn : VB 200 n) (hz : ¬ (n.x = 0 ∧ n.y = 0 ∧ n.z = 0)) (h0 : n.x ≠ 0) (sb zb : Bool) (hs : decide (n.z.num < 0) = sb) (hzb : ((qs n.z).toList == [48]) = zb) : Calls Tryz.prog 5 #[.agg #[.string (qs n.x), .string (qs n.y), .string (qs n.z)]] w (Ret w (.bool true)) := by
  have HN := Lib.hid hn
  have HZ := Lib.hid hz
  have HG := Lib.hid g
  clear hn hz g
  have HSZ := Lib.hid hsz; clear hsz
  have h0_t := qs_not0 h0
  have HXB := Lib.hid h0_t; have HZB := Lib.hid hzb; have HSB := Lib.hid hs
  clear h0
  go_enter Tryz.func5, Tryz.ntmps5
  go_wp2_with fail
  refine (known15_c _ (HG.out.ext ((Ext.refl w).alloc _))).mono ?_; rintro e w1 ⟨rfl, e1⟩
  have HX1 : Hid (Ext w w1) := Lib.hid (((Ext.refl w).alloc _).trans e1)
  have HB0_1 : Hid (Blk w1 (w.heap.size) #[.string (qs n.x), .string (qs n.y), .string (qs n.z)] 37) := Lib.hid (Blk.ext (Blk.new' (w := _) (cs := #[.string (qs n.x), .string (qs n.y), .string (qs n.z)]) (t := 37) (by first | rfl | (simp only [World.size_alloc]; done) | (simp only [World.size_alloc]; omega) | simp)) e1)
  have HGEB0 : Hid (w.heap.size ≤ w.heap.size) := Lib.hid (by first | omega | (simp only []; omega) | (simp; omega))
  clear e1
  have c0_0 := HB0_1.out.cell 0 rfl
  have c0_1 := HB0_1.out.cell 1 rfl
  have c0_2 := HB0_1.out.cell 2 rfl
  go_wp2_with fail
  refine (short15_b [qs n.x, qs n.y, qs n.z] 3 (w1.heap.size) true _ rfl (by decide) HSZ.out (Blk.new' (w := _) (cs := #[.string (qs n.x), .string (qs n.y), .string (qs n.z)]) (t := 22) (by first | rfl | (simp only [World.size_alloc]; done) | (simp only [World.size_alloc]; omega) | simp))).mono ?_; rintro e w2 ⟨rfl, e2⟩
  have HX2 : Hid (Ext w w2) := Lib.hid ((HX1.out.alloc _).trans e2)
  have HB0_2 : Hid (Blk w2 (w.heap.size) #[.string (qs n.x), .string (qs n.y), .string (qs n.z)] 37) := Lib.hid (Blk.ext (HB0_1.out.alloc _) e2)
  have HB1_2 : Hid (Blk w2 (w1.heap.size) #[.string (qs n.x), .string (qs n.y), .string (qs n.z)] 22) := Lib.hid (Blk.ext (Blk.new' (w := _) (cs := #[.string (qs n.x), .string (qs n.y), .string (qs n.z)]) (t := 22) (by first | rfl | (simp only [World.size_alloc]; done) | (simp only [World.size_alloc]; omega) | simp)) e2)
  have HGEB1 : Hid (w.heap.size ≤ w1.heap.size) := Lib.hid (by have := HX1.out.size; first | omega | (simp only []; omega) | (simp; omega))
  clear e2 c0_0 c0_1 c0_2
  have c0_0 := HB0_2.out.cell 0 rfl
  have c0_1 := HB0_2.out.cell 1 rfl
  have c0_2 := HB0_2.out.cell 2 rfl
  go_wp2_with fail
  refine (aover_ok n sb _ (HG.out.ext HX2.out) HN.out HZ.out HSB.out).mono ?_; rintro e w3 ⟨rfl, e3⟩
  have HX3 : Hid (Ext w w3) := Lib.hid (HX2.out.trans e3)
  have HB0_3 := Lib.hid (Blk.ext HB0_2.out e3)
  clear e3 c0_0 c0_1 c0_2
  have c0_0 := HB0_3.out.cell 0 rfl
  have c0_1 := HB0_3.out.cell 1 rfl
  have c0_2 := HB0_3.out.cell 2 rfl
  go_wp2_with fail
  refine (ahor_ok0 n _ (HG.out.ext HX3.out) HN.out HZ.out HXB.out).mono ?_; rintro e w4 ⟨rfl, e4⟩
  have HX4 : Hid (Ext w w4) := Lib.hid (HX3.out.trans e4)
  have HB0_4 := Lib.hid (Blk.ext HB0_3.out e4)
  clear e4 c0_0 c0_1 c0_2
  have c0_0 := HB0_4.out.cell 0 rfl
  have c0_1 := HB0_4.out.cell 1 rfl
  have c0_2 := HB0_4.out.cell 2 rfl
  go_wp2_with fail
  refine (avert_ok n zb _ (HG.out.ext HX4.out) HN.out HZ.out HZB.out).mono ?_; rintro e w5 ⟨rfl, e5⟩
  have HX5 : Hid (Ext w w5) := Lib.hid (HX4.out.trans e5)
  have HB0_5 := Lib.hid (Blk.ext HB0_4.out e5)
  clear e5 c0_0 c0_1 c0_2
  have c0_0 := HB0_5.out.cell 0 rfl
  have c0_1 := HB0_5.out.cell 1 rfl
  have c0_2 := HB0_5.out.cell 2 rfl
  go_wp2_with fail
  refine (lnorm_ok n _ (HG.out.ext HX5.out) HN.out HZ.out).mono ?_; rintro e w6 ⟨rfl, e6⟩
  have HX6 : Hid (Ext w w6) := Lib.hid (HX5.out.trans e6)
  have HB0_6 := Lib.hid (Blk.ext HB0_5.out e6)
  clear e6 c0_0 c0_1 c0_2
  have c0_2 := HB0_6.out.cell 2 rfl
  go_wp2_with fail
  refine (rsign_c n.z _).mono ?_; rintro e _ ⟨rfl, rfl⟩
  clear c0_2
  have c0_0 := HB0_6.out.cell 0 rfl
  have c0_2 := HB0_6.out.cell 2 rfl
  go_wp2
  go_ret
  exact ⟨rfl, HX6.out⟩

set_option maxRecDepth 100000 in
set_option maxHeartbeats 8000000 in
theorem planes15_R1 (n : V3) (w : World) (g : Gd w) (hsz : [qs n.x, qs n.y, qs n.z].all sz24 = true) (hn : VB 200 n) (hz : ¬ (n.x = 0 ∧ n.y = 0 ∧ n.z = 0)) (h0 : n.x = 0) (sb zb : Bool) (hs : decide (n.z.num < 0) = sb) (hzb : ((qs n.z).toList == [48]) = zb) (yb : Bool) (hy : ((qs n.y).toList == [48]) = yb) : Calls Tryz.prog 5 #[.agg #[.string (qs n.x), .string (qs n.y), .string (qs n.z)]] w (Ret w (.bool true)) := by
  have HN := Lib.hid hn
  have HZ := Lib.hid hz
  have HG := Lib.hid g
  clear hn hz g
  have HSZ := Lib.hid hsz; clear hsz
  have h0_t := qs_is0 h0
  have HXB := Lib.hid h0_t; have HZB := Lib.hid hzb; have HSB := Lib.hid hs
  have HYB := Lib.hid hy
  clear h0
  go_enter Tryz.func5, Tryz.ntmps5
  go_wp2_with fail
  refine (known15_c _ (HG.out.ext ((Ext.refl w).alloc _))).mono ?_; rintro e w1 ⟨rfl, e1⟩
  have HX1 : Hid (Ext w w1) := Lib.hid (((Ext.refl w).alloc _).trans e1)
  have HB0_1 : Hid (Blk w1 (w.heap.size) #[.string (qs n.x), .string (qs n.y), .string (qs n.z)] 37) := Lib.hid (Blk.ext (Blk.new' (w := _) (cs := #[.string (qs n.x), .string (qs n.y), .string (qs n.z)]) (t := 37) (by first | rfl | (simp only [World.size_alloc]; done) | (simp only [World.size_alloc]; omega) | simp)) e1)
  have HGEB0 : Hid (w.heap.size ≤ w.heap.size) := Lib.hid (by first | omega | (simp only []; omega) | (simp; omega))
  clear e1
  have c0_0 := HB0_1.out.cell 0 rfl
  have c0_1 := HB0_1.out.cell 1 rfl
  have c0_2 := HB0_1.out.cell 2 rfl
  go_wp2_with fail
  refine (short15_b [qs n.x, qs n.y, qs n.z] 3 (w1.heap.size) true _ rfl (by decide) HSZ.out (Blk.new' (w := _) (cs := #[.string (qs n.x), .string (qs n.y), .string (qs n.z)]) (t := 22) (by first | rfl | (simp only [World.size_alloc]; done) | (simp only [World.size_alloc]; omega) | simp))).mono ?_; rintro e w2 ⟨rfl, e2⟩
  have HX2 : Hid (Ext w w2) := Lib.hid ((HX1.out.alloc _).trans e2)
  have HB0_2 : Hid (Blk w2 (w.heap.size) #[.string (qs n.x), .string (qs n.y), .string (qs n.z)] 37) := Lib.hid (Blk.ext (HB0_1.out.alloc _) e2)
  have HB1_2 : Hid (Blk w2 (w1.heap.size) #[.string (qs n.x), .string (qs n.y), .string (qs n.z)] 22) := Lib.hid (Blk.ext (Blk.new' (w := _) (cs := #[.string (qs n.x), .string (qs n.y), .string (qs n.z)]) (t := 22) (by first | rfl | (simp only [World.size_alloc]; done) | (simp only [World.size_alloc]; omega) | simp)) e2)
  have HGEB1 : Hid (w.heap.size ≤ w1.heap.size) := Lib.hid (by have := HX1.out.size; first | omega | (simp only []; omega) | (simp; omega))
  clear e2 c0_0 c0_1 c0_2
  have c0_0 := HB0_2.out.cell 0 rfl
  have c0_1 := HB0_2.out.cell 1 rfl
  have c0_2 := HB0_2.out.cell 2 rfl
  go_wp2_with fail
  refine (aover_ok n sb _ (HG.out.ext HX2.out) HN.out HZ.out HSB.out).mono ?_; rintro e w3 ⟨rfl, e3⟩
  have HX3 : Hid (Ext w w3) := Lib.hid (HX2.out.trans e3)
  have HB0_3 := Lib.hid (Blk.ext HB0_2.out e3)
  clear e3 c0_0 c0_1 c0_2
  have c0_0 := HB0_3.out.cell 0 rfl
  have c0_1 := HB0_3.out.cell 1 rfl
  have c0_2 := HB0_3.out.cell 2 rfl
  go_wp2_with fail
  refine (ahor_ok1 n yb _ (HG.out.ext HX3.out) HN.out HZ.out HXB.out HYB.out).mono ?_; rintro e w4 ⟨rfl, e4⟩
  have HX4 : Hid (Ext w w4) := Lib.hid (HX3.out.trans e4)
  have HB0_4 := Lib.hid (Blk.ext HB0_3.out e4)
  clear e4 c0_0 c0_1 c0_2
  have c0_0 := HB0_4.out.cell 0 rfl
  have c0_1 := HB0_4.out.cell 1 rfl
  have c0_2 := HB0_4.out.cell 2 rfl
  go_wp2_with fail
  refine (avert_ok n zb _ (HG.out.ext HX4.out) HN.out HZ.out HZB.out).mono ?_; rintro e w5 ⟨rfl, e5⟩
  have HX5 : Hid (Ext w w5) := Lib.hid (HX4.out.trans e5)
  have HB0_5 := Lib.hid (Blk.ext HB0_4.out e5)
  clear e5 c0_0 c0_1 c0_2
  have c0_0 := HB0_5.out.cell 0 rfl
  have c0_1 := HB0_5.out.cell 1 rfl
  have c0_2 := HB0_5.out.cell 2 rfl
  go_wp2_with fail
  refine (lnorm_ok n _ (HG.out.ext HX5.out) HN.out HZ.out).mono ?_; rintro e w6 ⟨rfl, e6⟩
  have HX6 : Hid (Ext w w6) := Lib.hid (HX5.out.trans e6)
  have HB0_6 := Lib.hid (Blk.ext HB0_5.out e6)
  clear e6 c0_0 c0_1 c0_2
  have c0_2 := HB0_6.out.cell 2 rfl
  go_wp2_with fail
  refine (rsign_c n.z _).mono ?_; rintro e _ ⟨rfl, rfl⟩
  clear c0_2
  have c0_0 := HB0_6.out.cell 0 rfl
  have c0_1 := HB0_6.out.cell 1 rfl
  have c0_2 := HB0_6.out.cell 2 rfl
  go_wp2
  go_ret
  exact ⟨rfl, HX6.out⟩

theorem planes15_walk (n : T3) (w : World) (g : Gd w) : Calls Tryz.prog 5 #[tv n] w (Ret w (.bool true)) := by
  cases hs : [n.x, n.y, n.z].all sz24 with
  | false => exact planes15_L n w g hs
  | true =>
    cases r : n.l.all rq with
    | false =>
      cases hx : (n.x.toList == [48]) with
      | false => exact planes15_E0 n w g hs r hx _ rfl
      | true => exact planes15_E1 n w g hs r hx _ rfl _ rfl
    | true =>
      obtain ⟨v, rfl, hv⟩ := right_v r
      by_cases hz : v.x = 0 ∧ v.y = 0 ∧ v.z = 0
      · exact planes15_Z v w g hs hv hz
      · by_cases h0 : v.x = 0
        · exact planes15_R1 v w g hs hv hz h0 _ _ rfl rfl _ rfl
        · exact planes15_R0 v w g hs hv hz h0 _ _ rfl rfl
end Go.Proofs.YtplimbgaoengfaaGreatDoor
