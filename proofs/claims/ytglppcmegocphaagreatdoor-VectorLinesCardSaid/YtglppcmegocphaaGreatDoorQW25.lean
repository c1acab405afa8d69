/- Part 25 of the proof: V3, V4, V5. -/
import Derived.Test.YtglppcmegocphaaGreatDoorQW1
import Derived.Test.YtglppcmegocphaaGreatDoorQW2
import Derived.Test.YtglppcmegocphaaGreatDoorQW3
import Derived.Test.YtglppcmegocphaaGreatDoorQW4
import Derived.Test.YtglppcmegocphaaGreatDoorQW5
import Derived.Test.YtglppcmegocphaaGreatDoorQW6
import Derived.Test.YtglppcmegocphaaGreatDoorQW7
import Derived.Test.YtglppcmegocphaaGreatDoorQW8
import Derived.Test.YtglppcmegocphaaGreatDoorQW9
import Derived.Test.YtglppcmegocphaaGreatDoorQW10
import Derived.Test.YtglppcmegocphaaGreatDoorQW11
import Derived.Test.YtglppcmegocphaaGreatDoorQW12
import Derived.Test.YtglppcmegocphaaGreatDoorQW13
import Derived.Test.YtglppcmegocphaaGreatDoorQW14
import Derived.Test.YtglppcmegocphaaGreatDoorQW15
import Derived.Test.YtglppcmegocphaaGreatDoorQW16
import Derived.Test.YtglppcmegocphaaGreatDoorQW17
import Derived.Test.YtglppcmegocphaaGreatDoorQW18
import Derived.Test.YtglppcmegocphaaGreatDoorQW19
import Derived.Test.YtglppcmegocphaaGreatDoorQW20
import Derived.Test.YtglppcmegocphaaGreatDoorQW21
import Derived.Test.YtglppcmegocphaaGreatDoorQW22
import Derived.Test.YtglppcmegocphaaGreatDoorQW23
import Derived.Test.YtglppcmegocphaaGreatDoorQW24
namespace Go.Proofs.YtglppcmegocphaaGreatDoor
open Go Go.RowKit
set_option maxRecDepth 100000 in
set_option maxHeartbeats 2000000 in
theorem vAdd_ok (a b : V3) (w : World) (g : Gd w) (ha : VB 200 a) (hb : VB 200 b) (hr : VB 200 ⟨a.x + b.x, a.y + b.y, a.z + b.z⟩) : Calls Tryz.prog 31 #[.agg #[.string (qs a.x), .string (qs a.y), .string (qs a.z)], .agg #[.string (qs b.x), .string (qs b.y), .string (qs b.z)]] w (Ret w (.tuple #[.agg #[.string (qs (a.x + b.x)), .string (qs (a.y + b.y)), .string (qs (a.z + b.z))], .int .i64 0])) := by
  have HA := Lib.hid ha
  have HB := Lib.hid hb
  have HR := Lib.hid hr
  have HG := Lib.hid g
  clear ha hb hr g
  go_enter Tryz.func31, Tryz.ntmps31
  go_wp2_with fail
  refine (vectors2_ok a b (w.heap.size + 1 + 1 + 1) _ (HG.out.ext (((((Ext.refl w).alloc _).alloc _).alloc _).alloc _)) (HA.out.mono (by omega)) (HB.out.mono (by omega)) (Blk.new' (w := _) (cs := #[.string (qs a.x), .string (qs a.y), .string (qs a.z), .string (qs b.x), .string (qs b.y), .string (qs b.z)]) (t := 30) (by first | rfl | (simp only [World.size_alloc]; done) | (simp only [World.size_alloc]; omega) | simp))).mono ?_; rintro e w1 ⟨rfl, e1⟩
  have HX1 : Hid (Ext w w1) := Lib.hid ((((((Ext.refl w).alloc _).alloc _).alloc _).alloc _).trans e1)
  have HB0_1 : Hid (Blk w1 (w.heap.size) #[.string (qs a.x), .string (qs a.y), .string (qs a.z)] 30) := Lib.hid (Blk.ext ((((Blk.new' (w := _) (cs := #[.string (qs a.x), .string (qs a.y), .string (qs a.z)]) (t := 30) (by first | rfl | (simp only [World.size_alloc]; done) | (simp only [World.size_alloc]; omega) | simp)).alloc _).alloc _).alloc _) e1)
  have HB1_1 : Hid (Blk w1 (w.heap.size + 1) #[.string (qs b.x), .string (qs b.y), .string (qs b.z)] 30) := Lib.hid (Blk.ext (((Blk.new' (w := _) (cs := #[.string (qs b.x), .string (qs b.y), .string (qs b.z)]) (t := 30) (by first | rfl | (simp only [World.size_alloc]; done) | (simp only [World.size_alloc]; omega) | simp)).alloc _).alloc _) e1)
  have HB2_1 : Hid (Blk w1 (w.heap.size + 1 + 1) #[.string ⟨#[]⟩, .string ⟨#[]⟩, .string ⟨#[]⟩] 30) := Lib.hid (Blk.ext ((Blk.new' (w := _) (cs := #[.string ⟨#[]⟩, .string ⟨#[]⟩, .string ⟨#[]⟩]) (t := 30) (by first | rfl | (simp only [World.size_alloc]; done) | (simp only [World.size_alloc]; omega) | simp)).alloc _) e1)
  have HB3_1 : Hid (Blk w1 (w.heap.size + 1 + 1 + 1) #[.string (qs a.x), .string (qs a.y), .string (qs a.z), .string (qs b.x), .string (qs b.y), .string (qs b.z)] 30) := Lib.hid (Blk.ext (Blk.new' (w := _) (cs := #[.string (qs a.x), .string (qs a.y), .string (qs a.z), .string (qs b.x), .string (qs b.y), .string (qs b.z)]) (t := 30) (by first | rfl | (simp only [World.size_alloc]; done) | (simp only [World.size_alloc]; omega) | simp)) e1)
  have HGEB0 : Hid (w.heap.size ≤ w.heap.size) := Lib.hid (by first | omega | (simp only []; omega) | (simp; omega))
  have HGEB1 : Hid (w.heap.size ≤ w.heap.size + 1) := Lib.hid (by first | omega | (simp only []; omega) | (simp; omega))
  have HGEB2 : Hid (w.heap.size ≤ w.heap.size + 1 + 1) := Lib.hid (by first | omega | (simp only []; omega) | (simp; omega))
  have HGEB3 : Hid (w.heap.size ≤ w.heap.size + 1 + 1 + 1) := Lib.hid (by first | omega | (simp only []; omega) | (simp; omega))
  clear e1
  have c0_0 := HB0_1.out.cell 0 rfl
  have c0_1 := HB0_1.out.cell 1 rfl
  have c0_2 := HB0_1.out.cell 2 rfl
  have c1_0 := HB1_1.out.cell 0 rfl
  have c1_1 := HB1_1.out.cell 1 rfl
  have c1_2 := HB1_1.out.cell 2 rfl
  go_wp2_with fail
  refine (each_add a b _ (HG.out.ext HX1.out) HA.out HB.out (by omega) (by omega)).mono ?_; rintro e w2 ⟨rfl, e2⟩
  have HX2 : Hid (Ext w w2) := Lib.hid (HX1.out.trans e2)
  have HB2_2 := Lib.hid (Blk.ext HB2_1.out e2)
  clear e2 c0_0 c0_1 c0_2 c1_0 c1_1 c1_2
  go_wp2_with fail
  refine (result_3 (a.x + b.x) (a.y + b.y) (a.z + b.z) _ HR.out.x HR.out.y HR.out.z).mono ?_; rintro e w3 ⟨rfl, e3⟩
  have HX3 : Hid (Ext w w3) := Lib.hid (HX2.out.trans e3)
  have HB2_3 := Lib.hid (Blk.ext HB2_2.out e3)
  clear e3
  have c2_0 := HB2_3.out.cell 0 rfl
  have f2_0 := HB2_3.out.free 0
  have c2_1 := HB2_3.out.cell 1 rfl
  have f2_1 := HB2_3.out.free 1
  have c2_2 := HB2_3.out.cell 2 rfl
  have f2_2 := HB2_3.out.free 2
  go_wp2_with fail
  refine wp_name (fun W => Ext w W ∧ Blk W (w.heap.size + 1 + 1) #[.string (qs (a.x + b.x)), .string (qs (a.y + b.y)), .string (qs (a.z + b.z))] 30) ⟨(((HX3.out.setCell (by have := HGEB2.out; first | omega | (simp only []; omega) | (simp; omega)) _).setCell (by have := HGEB2.out; first | omega | (simp only []; omega) | (simp; omega)) _).setCell (by have := HGEB2.out; first | omega | (simp only []; omega) | (simp; omega)) _), (((HB2_3.out.set 0 (.string (qs (a.x + b.x)))).set 1 (.string (qs (a.y + b.y)))).set 2 (.string (qs (a.z + b.z))))⟩ ?_
  rintro w4 ⟨e4, bB2_4⟩
  have HX4 := Lib.hid e4; have HB2_4 := Lib.hid bB2_4
  clear e4 bB2_4 c2_0 f2_0 c2_1 f2_1 c2_2 f2_2
  have gB2_0 := HB2_4.out.cell 0 rfl
  have gB2_1 := HB2_4.out.cell 1 rfl
  have gB2_2 := HB2_4.out.cell 2 rfl
  refine bodyPost_ret (v := .tuple #[.agg #[.string (qs (a.x + b.x)), .string (qs (a.y + b.y)), .string (qs (a.z + b.z))], .int .i64 0]) (by simp [results, Tryz.results31, go_sem, gB2_0, gB2_1, gB2_2]) rfl ⟨rfl, HX4.out⟩

set_option maxRecDepth 100000 in
set_option maxHeartbeats 2000000 in
theorem vCross_ok (a b : V3) (w : World) (g : Gd w) (ha : VB 200 a) (hb : VB 200 b) (hr : VB 200 ⟨a.y * b.z - a.z * b.y, a.z * b.x - a.x * b.z, a.x * b.y - a.y * b.x⟩) : Calls Tryz.prog 29 #[.agg #[.string (qs a.x), .string (qs a.y), .string (qs a.z)], .agg #[.string (qs b.x), .string (qs b.y), .string (qs b.z)]] w (Ret w (.tuple #[.agg #[.string (qs (a.y * b.z - a.z * b.y)), .string (qs (a.z * b.x - a.x * b.z)), .string (qs (a.x * b.y - a.y * b.x))], .int .i64 0])) := by
  have HA := Lib.hid ha
  have HB := Lib.hid hb
  have HR := Lib.hid hr
  have HG := Lib.hid g
  clear ha hb hr g
  go_enter Tryz.func29, Tryz.ntmps29
  go_wp2_with fail
  refine (vectors2_ok a b (w.heap.size + 1 + 1 + 1) _ (HG.out.ext (((((Ext.refl w).alloc _).alloc _).alloc _).alloc _)) (HA.out.mono (by omega)) (HB.out.mono (by omega)) (Blk.new' (w := _) (cs := #[.string (qs a.x), .string (qs a.y), .string (qs a.z), .string (qs b.x), .string (qs b.y), .string (qs b.z)]) (t := 30) (by first | rfl | (simp only [World.size_alloc]; done) | (simp only [World.size_alloc]; omega) | simp))).mono ?_; rintro e w1 ⟨rfl, e1⟩
  have HX1 : Hid (Ext w w1) := Lib.hid ((((((Ext.refl w).alloc _).alloc _).alloc _).alloc _).trans e1)
  have HB0_1 : Hid (Blk w1 (w.heap.size) #[.string (qs a.x), .string (qs a.y), .string (qs a.z)] 30) := Lib.hid (Blk.ext ((((Blk.new' (w := _) (cs := #[.string (qs a.x), .string (qs a.y), .string (qs a.z)]) (t := 30) (by first | rfl | (simp only [World.size_alloc]; done) | (simp only [World.size_alloc]; omega) | simp)).alloc _).alloc _).alloc _) e1)
  have HB1_1 : Hid (Blk w1 (w.heap.size + 1) #[.string (qs b.x), .string (qs b.y), .string (qs b.z)] 30) := Lib.hid (Blk.ext (((Blk.new' (w := _) (cs := #[.string (qs b.x), .string (qs b.y), .string (qs b.z)]) (t := 30) (by first | rfl | (simp only [World.size_alloc]; done) | (simp only [World.size_alloc]; omega) | simp)).alloc _).alloc _) e1)
  have HB2_1 : Hid (Blk w1 (w.heap.size + 1 + 1) #[.string ⟨#[]⟩, .string ⟨#[]⟩, .string ⟨#[]⟩] 30) := Lib.hid (Blk.ext ((Blk.new' (w := _) (cs := #[.string ⟨#[]⟩, .string ⟨#[]⟩, .string ⟨#[]⟩]) (t := 30) (by first | rfl | (simp only [World.size_alloc]; done) | (simp only [World.size_alloc]; omega) | simp)).alloc _) e1)
  have HB3_1 : Hid (Blk w1 (w.heap.size + 1 + 1 + 1) #[.string (qs a.x), .string (qs a.y), .string (qs a.z), .string (qs b.x), .string (qs b.y), .string (qs b.z)] 30) := Lib.hid (Blk.ext (Blk.new' (w := _) (cs := #[.string (qs a.x), .string (qs a.y), .string (qs a.z), .string (qs b.x), .string (qs b.y), .string (qs b.z)]) (t := 30) (by first | rfl | (simp only [World.size_alloc]; done) | (simp only [World.size_alloc]; omega) | simp)) e1)
  have HGEB0 : Hid (w.heap.size ≤ w.heap.size) := Lib.hid (by first | omega | (simp only []; omega) | (simp; omega))
  have HGEB1 : Hid (w.heap.size ≤ w.heap.size + 1) := Lib.hid (by first | omega | (simp only []; omega) | (simp; omega))
  have HGEB2 : Hid (w.heap.size ≤ w.heap.size + 1 + 1) := Lib.hid (by first | omega | (simp only []; omega) | (simp; omega))
  have HGEB3 : Hid (w.heap.size ≤ w.heap.size + 1 + 1 + 1) := Lib.hid (by first | omega | (simp only []; omega) | (simp; omega))
  clear e1
  have c0_0 := HB0_1.out.cell 0 rfl
  have c0_1 := HB0_1.out.cell 1 rfl
  have c0_2 := HB0_1.out.cell 2 rfl
  have c1_0 := HB1_1.out.cell 0 rfl
  have c1_1 := HB1_1.out.cell 1 rfl
  have c1_2 := HB1_1.out.cell 2 rfl
  go_wp2_with fail
  refine (vcross0_c a b _ (HG.out.ext HX1.out) HA.out HB.out (by omega) (by omega)).mono ?_; rintro e w2 ⟨rfl, e2⟩
  have HX2 : Hid (Ext w w2) := Lib.hid (HX1.out.trans e2)
  have HB2_2 := Lib.hid (Blk.ext HB2_1.out e2)
  clear e2 c0_0 c0_1 c0_2 c1_0 c1_1 c1_2
  go_wp2_with fail
  refine (list_c ⟨qs (a.y * b.z - a.z * b.y), qs (a.z * b.x - a.x * b.z), qs (a.x * b.y - a.y * b.x)⟩ _).mono ?_; rintro e w3 ⟨rfl, e3⟩
  have HX3 : Hid (Ext w w3) := Lib.hid (HX2.out.trans e3)
  have HB2_3 := Lib.hid (Blk.ext HB2_2.out e3)
  clear e3
  go_wp2_with fail
  refine (result_3 (a.y * b.z - a.z * b.y) (a.z * b.x - a.x * b.z) (a.x * b.y - a.y * b.x) _ HR.out.x HR.out.y HR.out.z).mono ?_; rintro e w4 ⟨rfl, e4⟩
  have HX4 : Hid (Ext w w4) := Lib.hid (HX3.out.trans e4)
  have HB2_4 := Lib.hid (Blk.ext HB2_3.out e4)
  clear e4
  have c2_0 := HB2_4.out.cell 0 rfl
  have f2_0 := HB2_4.out.free 0
  have c2_1 := HB2_4.out.cell 1 rfl
  have f2_1 := HB2_4.out.free 1
  have c2_2 := HB2_4.out.cell 2 rfl
  have f2_2 := HB2_4.out.free 2
  go_wp2_with fail
  refine wp_name (fun W => Ext w W ∧ Blk W (w.heap.size + 1 + 1) #[.string (qs (a.y * b.z - a.z * b.y)), .string (qs (a.z * b.x - a.x * b.z)), .string (qs (a.x * b.y - a.y * b.x))] 30) ⟨(((HX4.out.setCell (by have := HGEB2.out; first | omega | (simp only []; omega) | (simp; omega)) _).setCell (by have := HGEB2.out; first | omega | (simp only []; omega) | (simp; omega)) _).setCell (by have := HGEB2.out; first | omega | (simp only []; omega) | (simp; omega)) _), (((HB2_4.out.set 0 (.string (qs (a.y * b.z - a.z * b.y)))).set 1 (.string (qs (a.z * b.x - a.x * b.z)))).set 2 (.string (qs (a.x * b.y - a.y * b.x))))⟩ ?_
  rintro w5 ⟨e5, bB2_5⟩
  have HX5 := Lib.hid e5; have HB2_5 := Lib.hid bB2_5
  clear e5 bB2_5 c2_0 f2_0 c2_1 f2_1 c2_2 f2_2
  have gB2_0 := HB2_5.out.cell 0 rfl
  have gB2_1 := HB2_5.out.cell 1 rfl
  have gB2_2 := HB2_5.out.cell 2 rfl
  refine bodyPost_ret (v := .tuple #[.agg #[.string (qs (a.y * b.z - a.z * b.y)), .string (qs (a.z * b.x - a.x * b.z)), .string (qs (a.x * b.y - a.y * b.x))], .int .i64 0]) (by simp [results, Tryz.results29, go_sem, gB2_0, gB2_1, gB2_2]) rfl ⟨rfl, HX5.out⟩

set_option maxRecDepth 100000 in
set_option maxHeartbeats 2000000 in
theorem vTurn_ok (a b c : P2) (w : World) (g : Gd w) (ha : PB 200 a) (hb : PB 200 b) (hc : PB 200 c) : Calls Tryz.prog 34 #[.agg #[.string (qs a.x), .string (qs a.y)], .agg #[.string (qs b.x), .string (qs b.y)], .agg #[.string (qs c.x), .string (qs c.y)]] w (Ret w (.tuple #[.int .i64 (((b.x - a.x) * (c.y - a.y) - (b.y - a.y) * (c.x - a.x)).num.sign), .int .i64 0])) := by
  have HA := Lib.hid ha
  have HB := Lib.hid hb
  have HC := Lib.hid hc
  have HG := Lib.hid g
  clear ha hb hc g
  go_enter Tryz.func34, Tryz.ntmps34
  go_wp2_with fail
  refine (points3_ok a b c (w.heap.size + 1 + 1 + 1) _ (HG.out.ext (((((Ext.refl w).alloc _).alloc _).alloc _).alloc _)) (HA.out.mono (by omega)) (HB.out.mono (by omega)) (HC.out.mono (by omega)) (Blk.new' (w := _) (cs := #[.string (qs a.x), .string (qs a.y), .string (qs b.x), .string (qs b.y), .string (qs c.x), .string (qs c.y)]) (t := 62) (by first | rfl | (simp only [World.size_alloc]; done) | (simp only [World.size_alloc]; omega) | simp))).mono ?_; rintro e w1 ⟨rfl, e1⟩
  have HX1 : Hid (Ext w w1) := Lib.hid ((((((Ext.refl w).alloc _).alloc _).alloc _).alloc _).trans e1)
  have HB0_1 : Hid (Blk w1 (w.heap.size) #[.string (qs a.x), .string (qs a.y)] 62) := Lib.hid (Blk.ext ((((Blk.new' (w := _) (cs := #[.string (qs a.x), .string (qs a.y)]) (t := 62) (by first | rfl | (simp only [World.size_alloc]; done) | (simp only [World.size_alloc]; omega) | simp)).alloc _).alloc _).alloc _) e1)
  have HB1_1 : Hid (Blk w1 (w.heap.size + 1) #[.string (qs b.x), .string (qs b.y)] 62) := Lib.hid (Blk.ext (((Blk.new' (w := _) (cs := #[.string (qs b.x), .string (qs b.y)]) (t := 62) (by first | rfl | (simp only [World.size_alloc]; done) | (simp only [World.size_alloc]; omega) | simp)).alloc _).alloc _) e1)
  have HB2_1 : Hid (Blk w1 (w.heap.size + 1 + 1) #[.string (qs c.x), .string (qs c.y)] 62) := Lib.hid (Blk.ext ((Blk.new' (w := _) (cs := #[.string (qs c.x), .string (qs c.y)]) (t := 62) (by first | rfl | (simp only [World.size_alloc]; done) | (simp only [World.size_alloc]; omega) | simp)).alloc _) e1)
  have HB3_1 : Hid (Blk w1 (w.heap.size + 1 + 1 + 1) #[.string (qs a.x), .string (qs a.y), .string (qs b.x), .string (qs b.y), .string (qs c.x), .string (qs c.y)] 62) := Lib.hid (Blk.ext (Blk.new' (w := _) (cs := #[.string (qs a.x), .string (qs a.y), .string (qs b.x), .string (qs b.y), .string (qs c.x), .string (qs c.y)]) (t := 62) (by first | rfl | (simp only [World.size_alloc]; done) | (simp only [World.size_alloc]; omega) | simp)) e1)
  have HGEB0 : Hid (w.heap.size ≤ w.heap.size) := Lib.hid (by first | omega | (simp only []; omega) | (simp; omega))
  have HGEB1 : Hid (w.heap.size ≤ w.heap.size + 1) := Lib.hid (by first | omega | (simp only []; omega) | (simp; omega))
  have HGEB2 : Hid (w.heap.size ≤ w.heap.size + 1 + 1) := Lib.hid (by first | omega | (simp only []; omega) | (simp; omega))
  have HGEB3 : Hid (w.heap.size ≤ w.heap.size + 1 + 1 + 1) := Lib.hid (by first | omega | (simp only []; omega) | (simp; omega))
  clear e1
  have c0_0 := HB0_1.out.cell 0 rfl
  have c0_1 := HB0_1.out.cell 1 rfl
  have c1_0 := HB1_1.out.cell 0 rfl
  have c1_1 := HB1_1.out.cell 1 rfl
  have c2_0 := HB2_1.out.cell 0 rfl
  have c2_1 := HB2_1.out.cell 1 rfl
  go_wp2_with fail
  refine (varea0_c a b c _ (HG.out.ext HX1.out) HA.out HB.out HC.out (by omega) (by omega) (by omega)).mono ?_; rintro e w2 ⟨rfl, e2⟩
  have HX2 : Hid (Ext w w2) := Lib.hid (HX1.out.trans e2)
  clear e2 c0_0 c0_1 c1_0 c1_1 c2_0 c2_1
  go_wp2_with fail
  refine (rsign_c ((b.x - a.x) * (c.y - a.y) - (b.y - a.y) * (c.x - a.x)) _).mono ?_; rintro e _ ⟨rfl, rfl⟩
  go_wp2
  go_ret2
  exact ⟨rfl, HX2.out⟩

set_option maxRecDepth 100000 in
set_option maxHeartbeats 2000000 in
theorem vArea_ok (a b c : P2) (w : World) (g : Gd w) (ha : PB 200 a) (hb : PB 200 b) (hc : PB 200 c) (hr : QB 200 ((b.x - a.x) * (c.y - a.y) - (b.y - a.y) * (c.x - a.x))) : Calls Tryz.prog 60 #[.agg #[.string (qs a.x), .string (qs a.y)], .agg #[.string (qs b.x), .string (qs b.y)], .agg #[.string (qs c.x), .string (qs c.y)]] w (Ret w (.tuple #[.string (qs ((b.x - a.x) * (c.y - a.y) - (b.y - a.y) * (c.x - a.x))), .int .i64 0])) := by
  have HA := Lib.hid ha
  have HB := Lib.hid hb
  have HC := Lib.hid hc
  have HG := Lib.hid g
  have HR := Lib.hid hr
  clear ha hb hc g hr
  go_enter Tryz.func60, Tryz.ntmps60
  go_wp2_with fail
  refine (points3_ok a b c (w.heap.size + 1 + 1 + 1) _ (HG.out.ext (((((Ext.refl w).alloc _).alloc _).alloc _).alloc _)) (HA.out.mono (by omega)) (HB.out.mono (by omega)) (HC.out.mono (by omega)) (Blk.new' (w := _) (cs := #[.string (qs a.x), .string (qs a.y), .string (qs b.x), .string (qs b.y), .string (qs c.x), .string (qs c.y)]) (t := 62) (by first | rfl | (simp only [World.size_alloc]; done) | (simp only [World.size_alloc]; omega) | simp))).mono ?_; rintro e w1 ⟨rfl, e1⟩
  have HX1 : Hid (Ext w w1) := Lib.hid ((((((Ext.refl w).alloc _).alloc _).alloc _).alloc _).trans e1)
  have HB0_1 : Hid (Blk w1 (w.heap.size) #[.string (qs a.x), .string (qs a.y)] 62) := Lib.hid (Blk.ext ((((Blk.new' (w := _) (cs := #[.string (qs a.x), .string (qs a.y)]) (t := 62) (by first | rfl | (simp only [World.size_alloc]; done) | (simp only [World.size_alloc]; omega) | simp)).alloc _).alloc _).alloc _) e1)
  have HB1_1 : Hid (Blk w1 (w.heap.size + 1) #[.string (qs b.x), .string (qs b.y)] 62) := Lib.hid (Blk.ext (((Blk.new' (w := _) (cs := #[.string (qs b.x), .string (qs b.y)]) (t := 62) (by first | rfl | (simp only [World.size_alloc]; done) | (simp only [World.size_alloc]; omega) | simp)).alloc _).alloc _) e1)
  have HB2_1 : Hid (Blk w1 (w.heap.size + 1 + 1) #[.string (qs c.x), .string (qs c.y)] 62) := Lib.hid (Blk.ext ((Blk.new' (w := _) (cs := #[.string (qs c.x), .string (qs c.y)]) (t := 62) (by first | rfl | (simp only [World.size_alloc]; done) | (simp only [World.size_alloc]; omega) | simp)).alloc _) e1)
  have HB3_1 : Hid (Blk w1 (w.heap.size + 1 + 1 + 1) #[.string (qs a.x), .string (qs a.y), .string (qs b.x), .string (qs b.y), .string (qs c.x), .string (qs c.y)] 62) := Lib.hid (Blk.ext (Blk.new' (w := _) (cs := #[.string (qs a.x), .string (qs a.y), .string (qs b.x), .string (qs b.y), .string (qs c.x), .string (qs c.y)]) (t := 62) (by first | rfl | (simp only [World.size_alloc]; done) | (simp only [World.size_alloc]; omega) | simp)) e1)
  have HGEB0 : Hid (w.heap.size ≤ w.heap.size) := Lib.hid (by first | omega | (simp only []; omega) | (simp; omega))
  have HGEB1 : Hid (w.heap.size ≤ w.heap.size + 1) := Lib.hid (by first | omega | (simp only []; omega) | (simp; omega))
  have HGEB2 : Hid (w.heap.size ≤ w.heap.size + 1 + 1) := Lib.hid (by first | omega | (simp only []; omega) | (simp; omega))
  have HGEB3 : Hid (w.heap.size ≤ w.heap.size + 1 + 1 + 1) := Lib.hid (by first | omega | (simp only []; omega) | (simp; omega))
  clear e1
  have c0_0 := HB0_1.out.cell 0 rfl
  have c0_1 := HB0_1.out.cell 1 rfl
  have c1_0 := HB1_1.out.cell 0 rfl
  have c1_1 := HB1_1.out.cell 1 rfl
  have c2_0 := HB2_1.out.cell 0 rfl
  have c2_1 := HB2_1.out.cell 1 rfl
  go_wp2_with fail
  refine (varea0_c a b c _ (HG.out.ext HX1.out) HA.out HB.out HC.out (by omega) (by omega) (by omega)).mono ?_; rintro e w2 ⟨rfl, e2⟩
  have HX2 : Hid (Ext w w2) := Lib.hid (HX1.out.trans e2)
  clear e2 c0_0 c0_1 c1_0 c1_1 c2_0 c2_1
  go_wp2_with fail
  refine (number_no ((b.x - a.x) * (c.y - a.y) - (b.y - a.y) * (c.x - a.x)) _ HR.out).mono ?_; rintro e w3 ⟨rfl, e3⟩
  have HX3 : Hid (Ext w w3) := Lib.hid (HX2.out.trans e3)
  clear e3
  go_wp2
  go_ret2
  exact ⟨rfl, HX3.out⟩

end Go.Proofs.YtglppcmegocphaaGreatDoor

namespace Go.Proofs.YtglppcmegocphaaGreatDoor
open Go Go.RowKit
set_option maxRecDepth 100000 in
set_option maxHeartbeats 2000000 in
theorem vPlane_ok (p : Pl) (w : World) (g : Gd w) (hn : VB 200 p.n) (hc : QB 200 p.c) (h0 : ¬ (p.n.x = 0 ∧ p.n.y = 0 ∧ p.n.z = 0)) : Calls Tryz.prog 58 #[.agg #[.string (qs p.n.x), .string (qs p.n.y), .string (qs p.n.z), .string (qs p.c)]] w (Ret w (.int .i64 0)) := by
  have HN := Lib.hid hn
  have HC := Lib.hid hc
  have HG := Lib.hid g
  have H0 := Lib.hid h0
  clear hn hc g h0
  go_enter Tryz.func58, Tryz.ntmps58
  go_wp2_with fail
  refine (numbers4_ok p.n.x p.n.y p.n.z p.c (w.heap.size + 1) _ (HG.out.ext (((Ext.refl w).alloc _).alloc _)) HN.out.x HN.out.y HN.out.z HC.out (Blk.new' (w := _) (cs := #[.string (qs p.n.x), .string (qs p.n.y), .string (qs p.n.z), .string (qs p.c)]) (t := 28) (by first | rfl | (simp only [World.size_alloc]; done) | (simp only [World.size_alloc]; omega) | simp))).mono ?_; rintro e w1 ⟨rfl, e1⟩
  have HX1 : Hid (Ext w w1) := Lib.hid ((((Ext.refl w).alloc _).alloc _).trans e1)
  have HB0_1 : Hid (Blk w1 (w.heap.size) #[.string (qs p.n.x), .string (qs p.n.y), .string (qs p.n.z), .string (qs p.c)] 48) := Lib.hid (Blk.ext ((Blk.new' (w := _) (cs := #[.string (qs p.n.x), .string (qs p.n.y), .string (qs p.n.z), .string (qs p.c)]) (t := 48) (by first | rfl | (simp only [World.size_alloc]; done) | (simp only [World.size_alloc]; omega) | simp)).alloc _) e1)
  have HB1_1 : Hid (Blk w1 (w.heap.size + 1) #[.string (qs p.n.x), .string (qs p.n.y), .string (qs p.n.z), .string (qs p.c)] 28) := Lib.hid (Blk.ext (Blk.new' (w := _) (cs := #[.string (qs p.n.x), .string (qs p.n.y), .string (qs p.n.z), .string (qs p.c)]) (t := 28) (by first | rfl | (simp only [World.size_alloc]; done) | (simp only [World.size_alloc]; omega) | simp)) e1)
  have HGEB0 : Hid (w.heap.size ≤ w.heap.size) := Lib.hid (by first | omega | (simp only []; omega) | (simp; omega))
  have HGEB1 : Hid (w.heap.size ≤ w.heap.size + 1) := Lib.hid (by first | omega | (simp only []; omega) | (simp; omega))
  clear e1
  have c0_0 := HB0_1.out.cell 0 rfl
  have c0_1 := HB0_1.out.cell 1 rfl
  have c0_2 := HB0_1.out.cell 2 rfl
  go_wp2_with fail
  refine (vzero_f p.n _ H0.out).mono ?_; rintro e w2 ⟨rfl, e2⟩
  have HX2 : Hid (Ext w w2) := Lib.hid (HX1.out.trans e2)
  clear e2 c0_0 c0_1 c0_2
  go_wp2
  go_ret
  exact ⟨rfl, HX2.out⟩

set_option maxRecDepth 100000 in
set_option maxHeartbeats 2000000 in
theorem vLine_0 (l : V3) (w : World) (g : Gd w) (hl : VB 200 l) (h0 : l.x ≠ 0) : Calls Tryz.prog 98 #[.agg #[.string (qs l.x), .string (qs l.y), .string (qs l.z)]] w (Ret w (.int .i64 0)) := by
  have HL := Lib.hid hl
  have HG := Lib.hid g
  clear hl g
  have h0_t := qs_not0 h0
  go_enter Tryz.func98, Tryz.ntmps98
  go_wp2_with fail
  refine (numbers3_ok l.x l.y l.z (w.heap.size + 1) _ (HG.out.ext (((Ext.refl w).alloc _).alloc _)) HL.out.x HL.out.y HL.out.z (Blk.new' (w := _) (cs := #[.string (qs l.x), .string (qs l.y), .string (qs l.z)]) (t := 28) (by first | rfl | (simp only [World.size_alloc]; done) | (simp only [World.size_alloc]; omega) | simp))).mono ?_; rintro e w1 ⟨rfl, e1⟩
  have HX1 : Hid (Ext w w1) := Lib.hid ((((Ext.refl w).alloc _).alloc _).trans e1)
  have HB0_1 : Hid (Blk w1 (w.heap.size) #[.string (qs l.x), .string (qs l.y), .string (qs l.z)] 73) := Lib.hid (Blk.ext ((Blk.new' (w := _) (cs := #[.string (qs l.x), .string (qs l.y), .string (qs l.z)]) (t := 73) (by first | rfl | (simp only [World.size_alloc]; done) | (simp only [World.size_alloc]; omega) | simp)).alloc _) e1)
  have HB1_1 : Hid (Blk w1 (w.heap.size + 1) #[.string (qs l.x), .string (qs l.y), .string (qs l.z)] 28) := Lib.hid (Blk.ext (Blk.new' (w := _) (cs := #[.string (qs l.x), .string (qs l.y), .string (qs l.z)]) (t := 28) (by first | rfl | (simp only [World.size_alloc]; done) | (simp only [World.size_alloc]; omega) | simp)) e1)
  have HGEB0 : Hid (w.heap.size ≤ w.heap.size) := Lib.hid (by first | omega | (simp only []; omega) | (simp; omega))
  have HGEB1 : Hid (w.heap.size ≤ w.heap.size + 1) := Lib.hid (by first | omega | (simp only []; omega) | (simp; omega))
  clear e1
  have c0_0 := HB0_1.out.cell 0 rfl
  go_wp2
  go_ret
  exact ⟨rfl, HX1.out⟩

set_option maxRecDepth 100000 in
set_option maxHeartbeats 2000000 in
theorem vLine_1 (l : V3) (w : World) (g : Gd w) (hl : VB 200 l) (h0 : l.x = 0) (h1 : l.y ≠ 0) : Calls Tryz.prog 98 #[.agg #[.string (qs l.x), .string (qs l.y), .string (qs l.z)]] w (Ret w (.int .i64 0)) := by
  have HL := Lib.hid hl
  have HG := Lib.hid g
  clear hl g
  have h0_t := qs_is0 h0
  have h1_t := qs_not0 h1
  clear h0
  go_enter Tryz.func98, Tryz.ntmps98
  go_wp2_with fail
  refine (numbers3_ok l.x l.y l.z (w.heap.size + 1) _ (HG.out.ext (((Ext.refl w).alloc _).alloc _)) HL.out.x HL.out.y HL.out.z (Blk.new' (w := _) (cs := #[.string (qs l.x), .string (qs l.y), .string (qs l.z)]) (t := 28) (by first | rfl | (simp only [World.size_alloc]; done) | (simp only [World.size_alloc]; omega) | simp))).mono ?_; rintro e w1 ⟨rfl, e1⟩
  have HX1 : Hid (Ext w w1) := Lib.hid ((((Ext.refl w).alloc _).alloc _).trans e1)
  have HB0_1 : Hid (Blk w1 (w.heap.size) #[.string (qs l.x), .string (qs l.y), .string (qs l.z)] 73) := Lib.hid (Blk.ext ((Blk.new' (w := _) (cs := #[.string (qs l.x), .string (qs l.y), .string (qs l.z)]) (t := 73) (by first | rfl | (simp only [World.size_alloc]; done) | (simp only [World.size_alloc]; omega) | simp)).alloc _) e1)
  have HB1_1 : Hid (Blk w1 (w.heap.size + 1) #[.string (qs l.x), .string (qs l.y), .string (qs l.z)] 28) := Lib.hid (Blk.ext (Blk.new' (w := _) (cs := #[.string (qs l.x), .string (qs l.y), .string (qs l.z)]) (t := 28) (by first | rfl | (simp only [World.size_alloc]; done) | (simp only [World.size_alloc]; omega) | simp)) e1)
  have HGEB0 : Hid (w.heap.size ≤ w.heap.size) := Lib.hid (by first | omega | (simp only []; omega) | (simp; omega))
  have HGEB1 : Hid (w.heap.size ≤ w.heap.size + 1) := Lib.hid (by first | omega | (simp only []; omega) | (simp; omega))
  clear e1
  have c0_0 := HB0_1.out.cell 0 rfl
  have c0_1 := HB0_1.out.cell 1 rfl
  go_wp2
  go_ret
  exact ⟨rfl, HX1.out⟩

theorem vLine_ok (l : V3) (w : World) (g : Gd w) (hl : VB 200 l) (h : ¬ (l.x = 0 ∧ l.y = 0)) : Calls Tryz.prog 98 #[vv l] w (Ret w (.int .i64 0)) := by
  by_cases h0 : l.x = 0
  · exact vLine_1 l w g hl h0 (fun e => h ⟨h0, e⟩)
  · exact vLine_0 l w g hl h0
theorem vCheck_ok (v : V3) (w : World) (g : Gd w) (hv : VB 200 v) : Calls Tryz.prog 54 #[vv v] w (Ret w (.int .i64 0)) := by
  have := vcheck_c ⟨qs v.x, qs v.y, qs v.z⟩ w g hv.ts
  rwa [show terr (T3.l ⟨qs v.x, qs v.y, qs v.z⟩) = 0 from terr_0 hv.all] at this
set_option maxRecDepth 100000 in
set_option maxHeartbeats 2000000 in
theorem vSide_ok (p : Pl) (v : V3) (w : World) (g : Gd w) (hn : VB 200 p.n) (hc : QB 200 p.c) (hv : VB 200 v) (h0 : ¬ (p.n.x = 0 ∧ p.n.y = 0 ∧ p.n.z = 0)) : Calls Tryz.prog 51 #[.agg #[.string (qs p.n.x), .string (qs p.n.y), .string (qs p.n.z), .string (qs p.c)], .agg #[.string (qs v.x), .string (qs v.y), .string (qs v.z)]] w (Ret w (.tuple #[.int .i64 (qcmp (p.n.x * v.x + p.n.y * v.y + p.n.z * v.z) p.c), .int .i64 0])) := by
  have HN := Lib.hid hn
  have HC := Lib.hid hc
  have HG := Lib.hid g
  have HV := Lib.hid hv
  have H0 := Lib.hid h0
  clear hn hc g hv h0
  go_enter Tryz.func51, Tryz.ntmps51
  go_wp2_with fail
  refine (vPlane_ok p _ (HG.out.ext (((Ext.refl w).alloc _).alloc _)) HN.out HC.out H0.out).mono ?_; rintro e w1 ⟨rfl, e1⟩
  have HX1 : Hid (Ext w w1) := Lib.hid ((((Ext.refl w).alloc _).alloc _).trans e1)
  have HB0_1 : Hid (Blk w1 (w.heap.size) #[.string (qs p.n.x), .string (qs p.n.y), .string (qs p.n.z), .string (qs p.c)] 48) := Lib.hid (Blk.ext ((Blk.new' (w := _) (cs := #[.string (qs p.n.x), .string (qs p.n.y), .string (qs p.n.z), .string (qs p.c)]) (t := 48) (by first | rfl | (simp only [World.size_alloc]; done) | (simp only [World.size_alloc]; omega) | simp)).alloc _) e1)
  have HB1_1 : Hid (Blk w1 (w.heap.size + 1) #[.string (qs v.x), .string (qs v.y), .string (qs v.z)] 30) := Lib.hid (Blk.ext (Blk.new' (w := _) (cs := #[.string (qs v.x), .string (qs v.y), .string (qs v.z)]) (t := 30) (by first | rfl | (simp only [World.size_alloc]; done) | (simp only [World.size_alloc]; omega) | simp)) e1)
  have HGEB0 : Hid (w.heap.size ≤ w.heap.size) := Lib.hid (by first | omega | (simp only []; omega) | (simp; omega))
  have HGEB1 : Hid (w.heap.size ≤ w.heap.size + 1) := Lib.hid (by first | omega | (simp only []; omega) | (simp; omega))
  clear e1
  have c1_0 := HB1_1.out.cell 0 rfl
  have c1_1 := HB1_1.out.cell 1 rfl
  have c1_2 := HB1_1.out.cell 2 rfl
  go_wp2_with fail
  refine (vCheck_ok v _ (HG.out.ext HX1.out) HV.out).mono ?_; rintro e w2 ⟨rfl, e2⟩
  have HX2 : Hid (Ext w w2) := Lib.hid (HX1.out.trans e2)
  have HB0_2 := Lib.hid (Blk.ext HB0_1.out e2)
  have HB1_2 := Lib.hid (Blk.ext HB1_1.out e2)
  clear e2 c1_0 c1_1 c1_2
  go_wp2_with fail
  refine wp_name (fun W => Ext w W ∧ Blk W (w.heap.size) #[.string (qs p.n.x), .string (qs p.n.y), .string (qs p.n.z), .string (qs p.c)] 48 ∧ Blk W (w.heap.size + 1) #[.string (qs v.x), .string (qs v.y), .string (qs v.z)] 30) ⟨HX2.out, HB0_2.out, HB1_2.out⟩ ?_
  rintro w3 ⟨e3, bB0_3, bB1_3⟩
  have HX3 := Lib.hid e3; have HB0_3 := Lib.hid bB0_3; have HB1_3 := Lib.hid bB1_3
  clear e3 bB0_3 bB1_3
  have hS3 : w3.cell? ⟨w.heap.size, 0, none⟩ = some (.string (qs p.n.x)) ∧ w3.cell? ⟨w.heap.size, 1, none⟩ = some (.string (qs p.n.y)) ∧ w3.cell? ⟨w.heap.size, 2, none⟩ = some (.string (qs p.n.z)) ∧ w3.cell? ⟨w.heap.size + 1, 0, none⟩ = some (.string (qs v.x)) ∧ w3.cell? ⟨w.heap.size + 1, 1, none⟩ = some (.string (qs v.y)) ∧ w3.cell? ⟨w.heap.size + 1, 2, none⟩ = some (.string (qs v.z)) ∧ w3.cell? ⟨w.heap.size, 3, none⟩ = some (.string (qs p.c)) := ⟨HB0_3.out.cell 0 rfl, HB0_3.out.cell 1 rfl, HB0_3.out.cell 2 rfl, HB1_3.out.cell 0 rfl, HB1_3.out.cell 1 rfl, HB1_3.out.cell 2 rfl, HB0_3.out.cell 3 rfl⟩
  have HS3 := Lib.hid hS3; clear hS3
  go_region_held3 (fun w' => w'.cell? ⟨w.heap.size, 0, none⟩ = some (.string (qs p.n.x)) ∧ w'.cell? ⟨w.heap.size, 1, none⟩ = some (.string (qs p.n.y)) ∧ w'.cell? ⟨w.heap.size, 2, none⟩ = some (.string (qs p.n.z)) ∧ w'.cell? ⟨w.heap.size + 1, 0, none⟩ = some (.string (qs v.x)) ∧ w'.cell? ⟨w.heap.size + 1, 1, none⟩ = some (.string (qs v.y)) ∧ w'.cell? ⟨w.heap.size + 1, 2, none⟩ = some (.string (qs v.z)) ∧ w'.cell? ⟨w.heap.size, 3, none⟩ = some (.string (qs p.c)))
    ((exact keepsH7 (by repeat (first | assumption | exact Ext.refl _ | apply Ext.drew | apply Ext.alloc | (refine Ext.setCell ?_ (by first | omega | (simp only []; omega) | (simp; omega)) _) | (refine Ext.trans ?_ (by assumption)))) HS3.out)) ((first
      | (go_at_call 87; ((with_reducible refine (vdot0_c p.n v _ (HG.out.ext (HX3.out.trans (by repeat (first | assumption | exact Ext.refl _ | apply Ext.drew | apply Ext.alloc | (refine Ext.setCell ?_ (by first | omega | (simp only []; omega) | (simp; omega)) _) | (refine Ext.trans ?_ (by assumption)))))) HN.out HV.out (by omega) (by omega)).mono ?_); rintro e w4 ⟨rfl, e4⟩))
      | (go_at_call 105; ((with_reducible refine (rcompare_c (p.n.x * v.x + p.n.y * v.y + p.n.z * v.z) p.c _ (HG.out.ext (HX3.out.trans (by repeat (first | assumption | exact Ext.refl _ | apply Ext.drew | apply Ext.alloc | (refine Ext.setCell ?_ (by first | omega | (simp only []; omega) | (simp; omega)) _) | (refine Ext.trans ?_ (by assumption)))))) (((HN.out.x.mul HV.out.x).add (HN.out.y.mul HV.out.y)).add (HN.out.z.mul HV.out.z)) HC.out (by omega) (by omega)).mono ?_); rintro e w5 ⟨rfl, e5⟩))))
  refine wp_name (fun W => Ext w W) (HX3.out.trans (((Ext.refl _).drew.trans e4).trans e5)) ?_
  rintro w6 e6
  have HX6 := Lib.hid e6
  clear e6
  go_wp2
  go_ret2
  exact ⟨rfl, HX6.out⟩

set_option maxRecDepth 100000 in
set_option maxHeartbeats 2000000 in
theorem vThrough_0 (a b : P2) (w : World) (g : Gd w) (ha : PB 200 a) (hb : PB 200 b) (hr : VB 200 ⟨a.y - b.y, b.x - a.x, (a.y - b.y) * a.x + (b.x - a.x) * a.y⟩) (h0 : a.x ≠ b.x) : Calls Tryz.prog 40 #[.agg #[.string (qs a.x), .string (qs a.y)], .agg #[.string (qs b.x), .string (qs b.y)]] w (Ret w (.tuple #[.agg #[.string (qs (a.y - b.y)), .string (qs (b.x - a.x)), .string (qs ((a.y - b.y) * a.x + (b.x - a.x) * a.y))], .int .i64 0])) := by
  have HA := Lib.hid ha
  have HB := Lib.hid hb
  have HR := Lib.hid hr
  have HG := Lib.hid g
  clear ha hb hr g
  have h0_t := qs_neL h0
  go_enter Tryz.func40, Tryz.ntmps40
  go_wp2_with fail
  refine (points2_ok a b (w.heap.size + 1 + 1 + 1) _ (HG.out.ext (((((Ext.refl w).alloc _).alloc _).alloc _).alloc _)) (HA.out.mono (by omega)) (HB.out.mono (by omega)) (Blk.new' (w := _) (cs := #[.string (qs a.x), .string (qs a.y), .string (qs b.x), .string (qs b.y)]) (t := 62) (by first | rfl | (simp only [World.size_alloc]; done) | (simp only [World.size_alloc]; omega) | simp))).mono ?_; rintro e w1 ⟨rfl, e1⟩
  have HX1 : Hid (Ext w w1) := Lib.hid ((((((Ext.refl w).alloc _).alloc _).alloc _).alloc _).trans e1)
  have HB0_1 : Hid (Blk w1 (w.heap.size) #[.string (qs a.x), .string (qs a.y)] 62) := Lib.hid (Blk.ext ((((Blk.new' (w := _) (cs := #[.string (qs a.x), .string (qs a.y)]) (t := 62) (by first | rfl | (simp only [World.size_alloc]; done) | (simp only [World.size_alloc]; omega) | simp)).alloc _).alloc _).alloc _) e1)
  have HB1_1 : Hid (Blk w1 (w.heap.size + 1) #[.string (qs b.x), .string (qs b.y)] 62) := Lib.hid (Blk.ext (((Blk.new' (w := _) (cs := #[.string (qs b.x), .string (qs b.y)]) (t := 62) (by first | rfl | (simp only [World.size_alloc]; done) | (simp only [World.size_alloc]; omega) | simp)).alloc _).alloc _) e1)
  have HB2_1 : Hid (Blk w1 (w.heap.size + 1 + 1) #[.string ⟨#[]⟩, .string ⟨#[]⟩, .string ⟨#[]⟩] 73) := Lib.hid (Blk.ext ((Blk.new' (w := _) (cs := #[.string ⟨#[]⟩, .string ⟨#[]⟩, .string ⟨#[]⟩]) (t := 73) (by first | rfl | (simp only [World.size_alloc]; done) | (simp only [World.size_alloc]; omega) | simp)).alloc _) e1)
  have HB3_1 : Hid (Blk w1 (w.heap.size + 1 + 1 + 1) #[.string (qs a.x), .string (qs a.y), .string (qs b.x), .string (qs b.y)] 62) := Lib.hid (Blk.ext (Blk.new' (w := _) (cs := #[.string (qs a.x), .string (qs a.y), .string (qs b.x), .string (qs b.y)]) (t := 62) (by first | rfl | (simp only [World.size_alloc]; done) | (simp only [World.size_alloc]; omega) | simp)) e1)
  have HGEB0 : Hid (w.heap.size ≤ w.heap.size) := Lib.hid (by first | omega | (simp only []; omega) | (simp; omega))
  have HGEB1 : Hid (w.heap.size ≤ w.heap.size + 1) := Lib.hid (by first | omega | (simp only []; omega) | (simp; omega))
  have HGEB2 : Hid (w.heap.size ≤ w.heap.size + 1 + 1) := Lib.hid (by first | omega | (simp only []; omega) | (simp; omega))
  have HGEB3 : Hid (w.heap.size ≤ w.heap.size + 1 + 1 + 1) := Lib.hid (by first | omega | (simp only []; omega) | (simp; omega))
  clear e1
  have c0_0 := HB0_1.out.cell 0 rfl
  have c0_1 := HB0_1.out.cell 1 rfl
  have c1_0 := HB1_1.out.cell 0 rfl
  have c1_1 := HB1_1.out.cell 1 rfl
  go_wp2_with fail
  refine wp_name (fun W => Ext w W ∧ Blk W (w.heap.size) #[.string (qs a.x), .string (qs a.y)] 62 ∧ Blk W (w.heap.size + 1) #[.string (qs b.x), .string (qs b.y)] 62 ∧ Blk W (w.heap.size + 1 + 1) #[.string ⟨#[]⟩, .string ⟨#[]⟩, .string ⟨#[]⟩] 73) ⟨HX1.out, HB0_1.out, HB1_1.out, HB2_1.out⟩ ?_
  rintro w2 ⟨e2, bB0_2, bB1_2, bB2_2⟩
  have HX2 := Lib.hid e2; have HB0_2 := Lib.hid bB0_2; have HB1_2 := Lib.hid bB1_2; have HB2_2 := Lib.hid bB2_2
  clear e2 bB0_2 bB1_2 bB2_2 c0_0 c0_1 c1_0 c1_1
  have hS2 : w2.cell? ⟨w.heap.size, 1, none⟩ = some (.string (qs a.y)) ∧ w2.cell? ⟨w.heap.size + 1, 1, none⟩ = some (.string (qs b.y)) ∧ w2.cell? ⟨w.heap.size + 1, 0, none⟩ = some (.string (qs b.x)) ∧ w2.cell? ⟨w.heap.size, 0, none⟩ = some (.string (qs a.x)) := ⟨HB0_2.out.cell 1 rfl, HB1_2.out.cell 1 rfl, HB1_2.out.cell 0 rfl, HB0_2.out.cell 0 rfl⟩
  have HS2 := Lib.hid hS2; clear hS2
  go_cut [7] from 20 to 30 (fun p7 wx => ∃ i4 : Nat, p7 = .pointer (some ⟨i4, 0, none⟩) ∧ w2.heap.size ≤ i4 ∧ Ext w2 wx ∧ Blk wx i4 #[.string (qs (a.y - b.y)), .string (qs (b.x - a.x)), .string ⟨#[]⟩] 73)
  case first =>
    go_region_held3 (fun w' => w'.cell? ⟨w.heap.size, 1, none⟩ = some (.string (qs a.y)) ∧ w'.cell? ⟨w.heap.size + 1, 1, none⟩ = some (.string (qs b.y)) ∧ w'.cell? ⟨w.heap.size + 1, 0, none⟩ = some (.string (qs b.x)) ∧ w'.cell? ⟨w.heap.size, 0, none⟩ = some (.string (qs a.x)))
      ((exact keepsH4 (by repeat (first | assumption | exact Ext.refl _ | apply Ext.drew | apply Ext.alloc | (refine Ext.setCell ?_ (by first | omega | (simp only []; omega) | (simp; omega)) _) | (refine Ext.trans ?_ (by assumption)))) HS2.out)) (first
      | (go_at_call 93; ((with_reducible refine (rsub_c a.y b.y _ (HG.out.ext (HX2.out.trans (by repeat (first | assumption | exact Ext.refl _ | apply Ext.drew | apply Ext.alloc | (refine Ext.setCell ?_ (by first | omega | (simp only []; omega) | (simp; omega)) _) | (refine Ext.trans ?_ (by assumption)))))) HA.out.y HB.out.y (by omega) (by omega)).mono ?_); rintro e w3 ⟨rfl, e3⟩; have z3 := e3.size; (try simp at z3); (first | (have N3 : Blk w3 w2.heap.size #[.string ⟨#[]⟩, .string ⟨#[]⟩, .string ⟨#[]⟩] 73 := Blk.ext (Blk.new' (by rfl)) e3) | (have N3 : Blk w3 w2.heap.size #[.string ⟨#[]⟩, .string ⟨#[]⟩, .string ⟨#[]⟩] 73 := Blk.ext (Blk.drew (Blk.new' (by rfl))) e3) | skip)))
      | (go_at_call 93; ((with_reducible refine (rsub_c b.x a.x _ (HG.out.ext (HX2.out.trans (by repeat (first | assumption | exact Ext.refl _ | apply Ext.drew | apply Ext.alloc | (refine Ext.setCell ?_ (by first | omega | (simp only []; omega) | (simp; omega)) _) | (refine Ext.trans ?_ (by assumption)))))) HB.out.x HA.out.x (by omega) (by omega)).mono ?_); rintro e w4 ⟨rfl, e4⟩; have z4 := e4.size; (try simp at z4); (first | (have N4 : Blk w4 w3.heap.size #[.string ⟨#[]⟩, .string ⟨#[]⟩, .string ⟨#[]⟩] 73 := Blk.ext (Blk.new' (by rfl)) e4) | (have N4 : Blk w4 w3.heap.size #[.string ⟨#[]⟩, .string ⟨#[]⟩, .string ⟨#[]⟩] 73 := Blk.ext (Blk.drew (Blk.new' (by rfl))) e4) | (have N4 := Blk.ext N3 e4) | skip); (first | (have q0 := N4.cell 0 rfl; have f0 := N4.free 0; have q1 := N4.cell 1 rfl; have f1 := N4.free 1; have q2 := N4.cell 2 rfl; have f2 := N4.free 2) | skip))))
    all_goals (go_wp2_with fail; go_meet)
    all_goals (refine ⟨_, rfl, by first | omega | (simp; omega), (by repeat (first | assumption | exact Ext.refl _ | apply Ext.drew | apply Ext.alloc | (refine Ext.setCell ?_ (by first | omega | (simp only []; omega) | (simp; omega)) _) | (refine Ext.trans ?_ (by assumption)))), ?_⟩)
    all_goals (repeat (first | assumption | (refine Blk.new' ?_; first | rfl | (simp only [World.size_alloc]; done) | (simp only [World.size_alloc]; omega)) | apply Blk.alloc | apply Blk.drew | (exact Blk.fill3 (by assumption)) | (refine Blk.ext ?_ (by assumption))))
  obtain ⟨i4, rfl, hgeB4, e5, bB4⟩ := hcut
  rename World => w5
  have HX5 : Hid (Ext w w5) := Lib.hid (HX2.out.trans e5)
  have HB0_5 := Lib.hid (HB0_2.out.ext e5)
  have HB2_5 := Lib.hid (HB2_2.out.ext e5)
  have HB4_5 := Lib.hid bB4; have HGEB4 : Hid (w.heap.size ≤ i4) := Lib.hid (Nat.le_trans HX2.out.size hgeB4)
  have HNEB0B4 : Hid (w.heap.size ≠ i4) := Lib.hid (by have := HB0_2.out.lt; omega)
  have HNEB2B4 : Hid (w.heap.size + 1 + 1 ≠ i4) := Lib.hid (by have := HB2_2.out.lt; omega)
  clear hgeB4 e5 bB4
  go_wp2_with fail
  refine wp_name (fun W => Ext w W ∧ Blk W (w.heap.size) #[.string (qs a.x), .string (qs a.y)] 62 ∧ Blk W (w.heap.size + 1 + 1) #[.string ⟨#[]⟩, .string ⟨#[]⟩, .string ⟨#[]⟩] 73 ∧ Blk W (i4) #[.string (qs (a.y - b.y)), .string (qs (b.x - a.x)), .string ⟨#[]⟩] 73) ⟨HX5.out, HB0_5.out, HB2_5.out, HB4_5.out⟩ ?_
  rintro w6 ⟨e6, bB0_6, bB2_6, bB4_6⟩
  have HX6 := Lib.hid e6; have HB0_6 := Lib.hid bB0_6; have HB2_6 := Lib.hid bB2_6; have HB4_6 := Lib.hid bB4_6
  clear e6 bB0_6 bB2_6 bB4_6
  have hS6 : w6.cell? ⟨i4, 0, none⟩ = some (.string (qs (a.y - b.y))) ∧ w6.cell? ⟨w.heap.size, 0, none⟩ = some (.string (qs a.x)) ∧ w6.cell? ⟨i4, 1, none⟩ = some (.string (qs (b.x - a.x))) ∧ w6.cell? ⟨w.heap.size, 1, none⟩ = some (.string (qs a.y)) := ⟨HB4_6.out.cell 0 rfl, HB0_6.out.cell 0 rfl, HB4_6.out.cell 1 rfl, HB0_6.out.cell 1 rfl⟩
  have HS6 := Lib.hid hS6; clear hS6
  go_region_held3 (fun w' => w'.cell? ⟨i4, 0, none⟩ = some (.string (qs (a.y - b.y))) ∧ w'.cell? ⟨w.heap.size, 0, none⟩ = some (.string (qs a.x)) ∧ w'.cell? ⟨i4, 1, none⟩ = some (.string (qs (b.x - a.x))) ∧ w'.cell? ⟨w.heap.size, 1, none⟩ = some (.string (qs a.y)))
    (((try simp only [cell_set_off (b := i4) (show (0 : Nat) ≠ 2 by decide), cell_set_off (b := i4) (show (1 : Nat) ≠ 2 by decide), cell_set_ne (show w.heap.size ≠ i4 from HNEB0B4.out)]); exact keepsH4 (by repeat (first | assumption | exact Ext.refl _ | apply Ext.drew | apply Ext.alloc | (refine Ext.setCell ?_ (by first | omega | (simp only []; omega) | (simp; omega)) _) | (refine Ext.trans ?_ (by assumption)))) HS6.out)) ((first
      | (go_at_call 95; ((with_reducible refine (rmul_c (a.y - b.y) a.x _ (HG.out.ext (HX6.out.trans (by repeat (first | assumption | exact Ext.refl _ | apply Ext.drew | apply Ext.alloc | (refine Ext.setCell ?_ (by first | omega | (simp only []; omega) | (simp; omega)) _) | (refine Ext.trans ?_ (by assumption)))))) (HA.out.y.sub HB.out.y) HA.out.x (by omega) (by omega)).mono ?_); rintro e w7 ⟨rfl, e7⟩))
      | (go_at_call 95; ((with_reducible refine (rmul_c (b.x - a.x) a.y _ (HG.out.ext (HX6.out.trans (by repeat (first | assumption | exact Ext.refl _ | apply Ext.drew | apply Ext.alloc | (refine Ext.setCell ?_ (by first | omega | (simp only []; omega) | (simp; omega)) _) | (refine Ext.trans ?_ (by assumption)))))) (HB.out.x.sub HA.out.x) HA.out.y (by omega) (by omega)).mono ?_); rintro e w8 ⟨rfl, e8⟩))
      | (go_at_call 89; ((with_reducible refine (radd_c ((a.y - b.y) * a.x) ((b.x - a.x) * a.y) _ (HG.out.ext (HX6.out.trans (by repeat (first | assumption | exact Ext.refl _ | apply Ext.drew | apply Ext.alloc | (refine Ext.setCell ?_ (by first | omega | (simp only []; omega) | (simp; omega)) _) | (refine Ext.trans ?_ (by assumption)))))) ((HA.out.y.sub HB.out.y).mul HA.out.x) ((HB.out.x.sub HA.out.x).mul HA.out.y) (by omega) (by omega)).mono ?_); rintro e w9 ⟨rfl, e9⟩; have RB4 := Blk.ext HB4_6.out (w' := w9) (by repeat (first | assumption | exact Ext.refl _ | apply Ext.drew | (refine Ext.trans ?_ (by assumption)))); have cB4_2 := RB4.cell 2 rfl; have fB4_2 := RB4.free 2; have HRB4 := Lib.hid RB4; clear RB4))))
  refine wp_name (fun W => Ext w W ∧ Blk W (w.heap.size + 1 + 1) #[.string ⟨#[]⟩, .string ⟨#[]⟩, .string ⟨#[]⟩] 73 ∧ Blk W (i4) #[.string (qs (a.y - b.y)), .string (qs (b.x - a.x)), .string (qs ((a.y - b.y) * a.x + (b.x - a.x) * a.y))] 73) ⟨((HX6.out.trans ((((Ext.refl _).drew.trans e7).trans e8).trans e9)).setCell (by have := HGEB4.out; first | omega | (simp only []; omega) | (simp; omega)) _), ((Blk.ext HB2_6.out ((((Ext.refl _).drew.trans e7).trans e8).trans e9)).other (a := ⟨i4, 2, none⟩) _ (HNEB2B4.out)), ((Blk.ext HB4_6.out ((((Ext.refl _).drew.trans e7).trans e8).trans e9)).set 2 (.string (qs ((a.y - b.y) * a.x + (b.x - a.x) * a.y))))⟩ ?_
  clear cB4_2 fB4_2
  rintro w10 ⟨e10, bB2_10, bB4_10⟩
  have HX10 := Lib.hid e10; have HB2_10 := Lib.hid bB2_10; have HB4_10 := Lib.hid bB4_10
  clear e10 bB2_10 bB4_10
  have c4_0 := HB4_10.out.cell 0 rfl
  go_wp2_with fail
  refine (long_no (a.y - b.y) _ HR.out.x).mono ?_; rintro e w11 ⟨rfl, e11⟩
  have HX11 : Hid (Ext w w11) := Lib.hid (HX10.out.trans e11)
  have HB2_11 := Lib.hid (Blk.ext HB2_10.out e11)
  have HB4_11 : Hid (Blk w11 (i4) #[.string (qs (a.y - b.y)), .string (qs (b.x - a.x)), .string (qs ((a.y - b.y) * a.x + (b.x - a.x) * a.y))] 73) := Lib.hid (Blk.ext HB4_10.out e11)
  clear e11 c4_0
  have c4_1 := HB4_11.out.cell 1 rfl
  go_wp2_with fail
  refine (long_no (b.x - a.x) _ HR.out.y).mono ?_; rintro e w12 ⟨rfl, e12⟩
  have HX12 : Hid (Ext w w12) := Lib.hid (HX11.out.trans e12)
  have HB2_12 := Lib.hid (Blk.ext HB2_11.out e12)
  have HB4_12 : Hid (Blk w12 (i4) #[.string (qs (a.y - b.y)), .string (qs (b.x - a.x)), .string (qs ((a.y - b.y) * a.x + (b.x - a.x) * a.y))] 73) := Lib.hid (Blk.ext HB4_11.out e12)
  clear e12 c4_1
  have c4_2 := HB4_12.out.cell 2 rfl
  go_wp2_with fail
  refine (long_no ((a.y - b.y) * a.x + (b.x - a.x) * a.y) _ HR.out.z).mono ?_; rintro e w13 ⟨rfl, e13⟩
  have HX13 : Hid (Ext w w13) := Lib.hid (HX12.out.trans e13)
  have HB2_13 := Lib.hid (Blk.ext HB2_12.out e13)
  have HB4_13 : Hid (Blk w13 (i4) #[.string (qs (a.y - b.y)), .string (qs (b.x - a.x)), .string (qs ((a.y - b.y) * a.x + (b.x - a.x) * a.y))] 73) := Lib.hid (Blk.ext HB4_12.out e13)
  clear e13 c4_2
  have c4_0 := HB4_13.out.cell 0 rfl
  have c4_1 := HB4_13.out.cell 1 rfl
  have c4_2 := HB4_13.out.cell 2 rfl
  have c2_0 := HB2_13.out.cell 0 rfl
  have f2_0 := HB2_13.out.free 0
  have c2_1 := HB2_13.out.cell 1 rfl
  have f2_1 := HB2_13.out.free 1
  have c2_2 := HB2_13.out.cell 2 rfl
  have f2_2 := HB2_13.out.free 2
  go_wp2_with fail
  refine wp_name (fun W => Ext w W ∧ Blk W (w.heap.size + 1 + 1) #[.string (qs (a.y - b.y)), .string (qs (b.x - a.x)), .string (qs ((a.y - b.y) * a.x + (b.x - a.x) * a.y))] 73) ⟨(((HX13.out.setCell (by have := HGEB2.out; first | omega | (simp only []; omega) | (simp; omega)) _).setCell (by have := HGEB2.out; first | omega | (simp only []; omega) | (simp; omega)) _).setCell (by have := HGEB2.out; first | omega | (simp only []; omega) | (simp; omega)) _), (((HB2_13.out.set 0 (.string (qs (a.y - b.y)))).set 1 (.string (qs (b.x - a.x)))).set 2 (.string (qs ((a.y - b.y) * a.x + (b.x - a.x) * a.y))))⟩ ?_
  rintro w14 ⟨e14, bB2_14⟩
  have HX14 := Lib.hid e14; have HB2_14 := Lib.hid bB2_14
  clear e14 bB2_14 c4_0 c4_1 c4_2 c2_0 f2_0 c2_1 f2_1 c2_2 f2_2
  have gB2_0 := HB2_14.out.cell 0 rfl
  have gB2_1 := HB2_14.out.cell 1 rfl
  have gB2_2 := HB2_14.out.cell 2 rfl
  refine bodyPost_ret (v := .tuple #[.agg #[.string (qs (a.y - b.y)), .string (qs (b.x - a.x)), .string (qs ((a.y - b.y) * a.x + (b.x - a.x) * a.y))], .int .i64 0]) (by simp [results, Tryz.results40, go_sem, gB2_0, gB2_1, gB2_2]) rfl ⟨rfl, HX14.out⟩

set_option maxRecDepth 100000 in
set_option maxHeartbeats 2000000 in
theorem vThrough_1 (a b : P2) (w : World) (g : Gd w) (ha : PB 200 a) (hb : PB 200 b) (hr : VB 200 ⟨a.y - b.y, b.x - a.x, (a.y - b.y) * a.x + (b.x - a.x) * a.y⟩) (h0 : a.x = b.x) (h1 : a.y ≠ b.y) : Calls Tryz.prog 40 #[.agg #[.string (qs a.x), .string (qs a.y)], .agg #[.string (qs b.x), .string (qs b.y)]] w (Ret w (.tuple #[.agg #[.string (qs (a.y - b.y)), .string (qs (b.x - a.x)), .string (qs ((a.y - b.y) * a.x + (b.x - a.x) * a.y))], .int .i64 0])) := by
  have HA := Lib.hid ha
  have HB := Lib.hid hb
  have HR := Lib.hid hr
  have HG := Lib.hid g
  clear ha hb hr g
  have h0_t := qs_eqL h0
  have h1_t := qs_neL h1
  clear h0
  go_enter Tryz.func40, Tryz.ntmps40
  go_wp2_with fail
  refine (points2_ok a b (w.heap.size + 1 + 1 + 1) _ (HG.out.ext (((((Ext.refl w).alloc _).alloc _).alloc _).alloc _)) (HA.out.mono (by omega)) (HB.out.mono (by omega)) (Blk.new' (w := _) (cs := #[.string (qs a.x), .string (qs a.y), .string (qs b.x), .string (qs b.y)]) (t := 62) (by first | rfl | (simp only [World.size_alloc]; done) | (simp only [World.size_alloc]; omega) | simp))).mono ?_; rintro e w1 ⟨rfl, e1⟩
  have HX1 : Hid (Ext w w1) := Lib.hid ((((((Ext.refl w).alloc _).alloc _).alloc _).alloc _).trans e1)
  have HB0_1 : Hid (Blk w1 (w.heap.size) #[.string (qs a.x), .string (qs a.y)] 62) := Lib.hid (Blk.ext ((((Blk.new' (w := _) (cs := #[.string (qs a.x), .string (qs a.y)]) (t := 62) (by first | rfl | (simp only [World.size_alloc]; done) | (simp only [World.size_alloc]; omega) | simp)).alloc _).alloc _).alloc _) e1)
  have HB1_1 : Hid (Blk w1 (w.heap.size + 1) #[.string (qs b.x), .string (qs b.y)] 62) := Lib.hid (Blk.ext (((Blk.new' (w := _) (cs := #[.string (qs b.x), .string (qs b.y)]) (t := 62) (by first | rfl | (simp only [World.size_alloc]; done) | (simp only [World.size_alloc]; omega) | simp)).alloc _).alloc _) e1)
  have HB2_1 : Hid (Blk w1 (w.heap.size + 1 + 1) #[.string ⟨#[]⟩, .string ⟨#[]⟩, .string ⟨#[]⟩] 73) := Lib.hid (Blk.ext ((Blk.new' (w := _) (cs := #[.string ⟨#[]⟩, .string ⟨#[]⟩, .string ⟨#[]⟩]) (t := 73) (by first | rfl | (simp only [World.size_alloc]; done) | (simp only [World.size_alloc]; omega) | simp)).alloc _) e1)
  have HB3_1 : Hid (Blk w1 (w.heap.size + 1 + 1 + 1) #[.string (qs a.x), .string (qs a.y), .string (qs b.x), .string (qs b.y)] 62) := Lib.hid (Blk.ext (Blk.new' (w := _) (cs := #[.string (qs a.x), .string (qs a.y), .string (qs b.x), .string (qs b.y)]) (t := 62) (by first | rfl | (simp only [World.size_alloc]; done) | (simp only [World.size_alloc]; omega) | simp)) e1)
  have HGEB0 : Hid (w.heap.size ≤ w.heap.size) := Lib.hid (by first | omega | (simp only []; omega) | (simp; omega))
  have HGEB1 : Hid (w.heap.size ≤ w.heap.size + 1) := Lib.hid (by first | omega | (simp only []; omega) | (simp; omega))
  have HGEB2 : Hid (w.heap.size ≤ w.heap.size + 1 + 1) := Lib.hid (by first | omega | (simp only []; omega) | (simp; omega))
  have HGEB3 : Hid (w.heap.size ≤ w.heap.size + 1 + 1 + 1) := Lib.hid (by first | omega | (simp only []; omega) | (simp; omega))
  clear e1
  have c0_0 := HB0_1.out.cell 0 rfl
  have c0_1 := HB0_1.out.cell 1 rfl
  have c1_0 := HB1_1.out.cell 0 rfl
  have c1_1 := HB1_1.out.cell 1 rfl
  go_wp2_with fail
  refine wp_name (fun W => Ext w W ∧ Blk W (w.heap.size) #[.string (qs a.x), .string (qs a.y)] 62 ∧ Blk W (w.heap.size + 1) #[.string (qs b.x), .string (qs b.y)] 62 ∧ Blk W (w.heap.size + 1 + 1) #[.string ⟨#[]⟩, .string ⟨#[]⟩, .string ⟨#[]⟩] 73) ⟨HX1.out, HB0_1.out, HB1_1.out, HB2_1.out⟩ ?_
  rintro w2 ⟨e2, bB0_2, bB1_2, bB2_2⟩
  have HX2 := Lib.hid e2; have HB0_2 := Lib.hid bB0_2; have HB1_2 := Lib.hid bB1_2; have HB2_2 := Lib.hid bB2_2
  clear e2 bB0_2 bB1_2 bB2_2 c0_0 c0_1 c1_0 c1_1
  have hS2 : w2.cell? ⟨w.heap.size, 1, none⟩ = some (.string (qs a.y)) ∧ w2.cell? ⟨w.heap.size + 1, 1, none⟩ = some (.string (qs b.y)) ∧ w2.cell? ⟨w.heap.size + 1, 0, none⟩ = some (.string (qs b.x)) ∧ w2.cell? ⟨w.heap.size, 0, none⟩ = some (.string (qs a.x)) := ⟨HB0_2.out.cell 1 rfl, HB1_2.out.cell 1 rfl, HB1_2.out.cell 0 rfl, HB0_2.out.cell 0 rfl⟩
  have HS2 := Lib.hid hS2; clear hS2
  go_cut [7] from 20 to 30 (fun p7 wx => ∃ i4 : Nat, p7 = .pointer (some ⟨i4, 0, none⟩) ∧ w2.heap.size ≤ i4 ∧ Ext w2 wx ∧ Blk wx i4 #[.string (qs (a.y - b.y)), .string (qs (b.x - a.x)), .string ⟨#[]⟩] 73)
  case first =>
    go_region_held3 (fun w' => w'.cell? ⟨w.heap.size, 1, none⟩ = some (.string (qs a.y)) ∧ w'.cell? ⟨w.heap.size + 1, 1, none⟩ = some (.string (qs b.y)) ∧ w'.cell? ⟨w.heap.size + 1, 0, none⟩ = some (.string (qs b.x)) ∧ w'.cell? ⟨w.heap.size, 0, none⟩ = some (.string (qs a.x)))
      ((exact keepsH4 (by repeat (first | assumption | exact Ext.refl _ | apply Ext.drew | apply Ext.alloc | (refine Ext.setCell ?_ (by first | omega | (simp only []; omega) | (simp; omega)) _) | (refine Ext.trans ?_ (by assumption)))) HS2.out)) (first
      | (go_at_call 93; ((with_reducible refine (rsub_c a.y b.y _ (HG.out.ext (HX2.out.trans (by repeat (first | assumption | exact Ext.refl _ | apply Ext.drew | apply Ext.alloc | (refine Ext.setCell ?_ (by first | omega | (simp only []; omega) | (simp; omega)) _) | (refine Ext.trans ?_ (by assumption)))))) HA.out.y HB.out.y (by omega) (by omega)).mono ?_); rintro e w3 ⟨rfl, e3⟩; have z3 := e3.size; (try simp at z3); (first | (have N3 : Blk w3 w2.heap.size #[.string ⟨#[]⟩, .string ⟨#[]⟩, .string ⟨#[]⟩] 73 := Blk.ext (Blk.new' (by rfl)) e3) | (have N3 : Blk w3 w2.heap.size #[.string ⟨#[]⟩, .string ⟨#[]⟩, .string ⟨#[]⟩] 73 := Blk.ext (Blk.drew (Blk.new' (by rfl))) e3) | skip)))
      | (go_at_call 93; ((with_reducible refine (rsub_c b.x a.x _ (HG.out.ext (HX2.out.trans (by repeat (first | assumption | exact Ext.refl _ | apply Ext.drew | apply Ext.alloc | (refine Ext.setCell ?_ (by first | omega | (simp only []; omega) | (simp; omega)) _) | (refine Ext.trans ?_ (by assumption)))))) HB.out.x HA.out.x (by omega) (by omega)).mono ?_); rintro e w4 ⟨rfl, e4⟩; have z4 := e4.size; (try simp at z4); (first | (have N4 : Blk w4 w3.heap.size #[.string ⟨#[]⟩, .string ⟨#[]⟩, .string ⟨#[]⟩] 73 := Blk.ext (Blk.new' (by rfl)) e4) | (have N4 : Blk w4 w3.heap.size #[.string ⟨#[]⟩, .string ⟨#[]⟩, .string ⟨#[]⟩] 73 := Blk.ext (Blk.drew (Blk.new' (by rfl))) e4) | (have N4 := Blk.ext N3 e4) | skip); (first | (have q0 := N4.cell 0 rfl; have f0 := N4.free 0; have q1 := N4.cell 1 rfl; have f1 := N4.free 1; have q2 := N4.cell 2 rfl; have f2 := N4.free 2) | skip))))
    all_goals (go_wp2_with fail; go_meet)
    all_goals (refine ⟨_, rfl, by first | omega | (simp; omega), (by repeat (first | assumption | exact Ext.refl _ | apply Ext.drew | apply Ext.alloc | (refine Ext.setCell ?_ (by first | omega | (simp only []; omega) | (simp; omega)) _) | (refine Ext.trans ?_ (by assumption)))), ?_⟩)
    all_goals (repeat (first | assumption | (refine Blk.new' ?_; first | rfl | (simp only [World.size_alloc]; done) | (simp only [World.size_alloc]; omega)) | apply Blk.alloc | apply Blk.drew | (exact Blk.fill3 (by assumption)) | (refine Blk.ext ?_ (by assumption))))
  obtain ⟨i4, rfl, hgeB4, e5, bB4⟩ := hcut
  rename World => w5
  have HX5 : Hid (Ext w w5) := Lib.hid (HX2.out.trans e5)
  have HB0_5 := Lib.hid (HB0_2.out.ext e5)
  have HB2_5 := Lib.hid (HB2_2.out.ext e5)
  have HB4_5 := Lib.hid bB4; have HGEB4 : Hid (w.heap.size ≤ i4) := Lib.hid (Nat.le_trans HX2.out.size hgeB4)
  have HNEB0B4 : Hid (w.heap.size ≠ i4) := Lib.hid (by have := HB0_2.out.lt; omega)
  have HNEB2B4 : Hid (w.heap.size + 1 + 1 ≠ i4) := Lib.hid (by have := HB2_2.out.lt; omega)
  clear hgeB4 e5 bB4
  go_wp2_with fail
  refine wp_name (fun W => Ext w W ∧ Blk W (w.heap.size) #[.string (qs a.x), .string (qs a.y)] 62 ∧ Blk W (w.heap.size + 1 + 1) #[.string ⟨#[]⟩, .string ⟨#[]⟩, .string ⟨#[]⟩] 73 ∧ Blk W (i4) #[.string (qs (a.y - b.y)), .string (qs (b.x - a.x)), .string ⟨#[]⟩] 73) ⟨HX5.out, HB0_5.out, HB2_5.out, HB4_5.out⟩ ?_
  rintro w6 ⟨e6, bB0_6, bB2_6, bB4_6⟩
  have HX6 := Lib.hid e6; have HB0_6 := Lib.hid bB0_6; have HB2_6 := Lib.hid bB2_6; have HB4_6 := Lib.hid bB4_6
  clear e6 bB0_6 bB2_6 bB4_6
  have hS6 : w6.cell? ⟨i4, 0, none⟩ = some (.string (qs (a.y - b.y))) ∧ w6.cell? ⟨w.heap.size, 0, none⟩ = some (.string (qs a.x)) ∧ w6.cell? ⟨i4, 1, none⟩ = some (.string (qs (b.x - a.x))) ∧ w6.cell? ⟨w.heap.size, 1, none⟩ = some (.string (qs a.y)) := ⟨HB4_6.out.cell 0 rfl, HB0_6.out.cell 0 rfl, HB4_6.out.cell 1 rfl, HB0_6.out.cell 1 rfl⟩
  have HS6 := Lib.hid hS6; clear hS6
  go_region_held3 (fun w' => w'.cell? ⟨i4, 0, none⟩ = some (.string (qs (a.y - b.y))) ∧ w'.cell? ⟨w.heap.size, 0, none⟩ = some (.string (qs a.x)) ∧ w'.cell? ⟨i4, 1, none⟩ = some (.string (qs (b.x - a.x))) ∧ w'.cell? ⟨w.heap.size, 1, none⟩ = some (.string (qs a.y)))
    (((try simp only [cell_set_off (b := i4) (show (0 : Nat) ≠ 2 by decide), cell_set_off (b := i4) (show (1 : Nat) ≠ 2 by decide), cell_set_ne (show w.heap.size ≠ i4 from HNEB0B4.out)]); exact keepsH4 (by repeat (first | assumption | exact Ext.refl _ | apply Ext.drew | apply Ext.alloc | (refine Ext.setCell ?_ (by first | omega | (simp only []; omega) | (simp; omega)) _) | (refine Ext.trans ?_ (by assumption)))) HS6.out)) ((first
      | (go_at_call 95; ((with_reducible refine (rmul_c (a.y - b.y) a.x _ (HG.out.ext (HX6.out.trans (by repeat (first | assumption | exact Ext.refl _ | apply Ext.drew | apply Ext.alloc | (refine Ext.setCell ?_ (by first | omega | (simp only []; omega) | (simp; omega)) _) | (refine Ext.trans ?_ (by assumption)))))) (HA.out.y.sub HB.out.y) HA.out.x (by omega) (by omega)).mono ?_); rintro e w7 ⟨rfl, e7⟩))
      | (go_at_call 95; ((with_reducible refine (rmul_c (b.x - a.x) a.y _ (HG.out.ext (HX6.out.trans (by repeat (first | assumption | exact Ext.refl _ | apply Ext.drew | apply Ext.alloc | (refine Ext.setCell ?_ (by first | omega | (simp only []; omega) | (simp; omega)) _) | (refine Ext.trans ?_ (by assumption)))))) (HB.out.x.sub HA.out.x) HA.out.y (by omega) (by omega)).mono ?_); rintro e w8 ⟨rfl, e8⟩))
      | (go_at_call 89; ((with_reducible refine (radd_c ((a.y - b.y) * a.x) ((b.x - a.x) * a.y) _ (HG.out.ext (HX6.out.trans (by repeat (first | assumption | exact Ext.refl _ | apply Ext.drew | apply Ext.alloc | (refine Ext.setCell ?_ (by first | omega | (simp only []; omega) | (simp; omega)) _) | (refine Ext.trans ?_ (by assumption)))))) ((HA.out.y.sub HB.out.y).mul HA.out.x) ((HB.out.x.sub HA.out.x).mul HA.out.y) (by omega) (by omega)).mono ?_); rintro e w9 ⟨rfl, e9⟩; have RB4 := Blk.ext HB4_6.out (w' := w9) (by repeat (first | assumption | exact Ext.refl _ | apply Ext.drew | (refine Ext.trans ?_ (by assumption)))); have cB4_2 := RB4.cell 2 rfl; have fB4_2 := RB4.free 2; have HRB4 := Lib.hid RB4; clear RB4))))
  refine wp_name (fun W => Ext w W ∧ Blk W (w.heap.size + 1 + 1) #[.string ⟨#[]⟩, .string ⟨#[]⟩, .string ⟨#[]⟩] 73 ∧ Blk W (i4) #[.string (qs (a.y - b.y)), .string (qs (b.x - a.x)), .string (qs ((a.y - b.y) * a.x + (b.x - a.x) * a.y))] 73) ⟨((HX6.out.trans ((((Ext.refl _).drew.trans e7).trans e8).trans e9)).setCell (by have := HGEB4.out; first | omega | (simp only []; omega) | (simp; omega)) _), ((Blk.ext HB2_6.out ((((Ext.refl _).drew.trans e7).trans e8).trans e9)).other (a := ⟨i4, 2, none⟩) _ (HNEB2B4.out)), ((Blk.ext HB4_6.out ((((Ext.refl _).drew.trans e7).trans e8).trans e9)).set 2 (.string (qs ((a.y - b.y) * a.x + (b.x - a.x) * a.y))))⟩ ?_
  clear cB4_2 fB4_2
  rintro w10 ⟨e10, bB2_10, bB4_10⟩
  have HX10 := Lib.hid e10; have HB2_10 := Lib.hid bB2_10; have HB4_10 := Lib.hid bB4_10
  clear e10 bB2_10 bB4_10
  have c4_0 := HB4_10.out.cell 0 rfl
  go_wp2_with fail
  refine (long_no (a.y - b.y) _ HR.out.x).mono ?_; rintro e w11 ⟨rfl, e11⟩
  have HX11 : Hid (Ext w w11) := Lib.hid (HX10.out.trans e11)
  have HB2_11 := Lib.hid (Blk.ext HB2_10.out e11)
  have HB4_11 : Hid (Blk w11 (i4) #[.string (qs (a.y - b.y)), .string (qs (b.x - a.x)), .string (qs ((a.y - b.y) * a.x + (b.x - a.x) * a.y))] 73) := Lib.hid (Blk.ext HB4_10.out e11)
  clear e11 c4_0
  have c4_1 := HB4_11.out.cell 1 rfl
  go_wp2_with fail
  refine (long_no (b.x - a.x) _ HR.out.y).mono ?_; rintro e w12 ⟨rfl, e12⟩
  have HX12 : Hid (Ext w w12) := Lib.hid (HX11.out.trans e12)
  have HB2_12 := Lib.hid (Blk.ext HB2_11.out e12)
  have HB4_12 : Hid (Blk w12 (i4) #[.string (qs (a.y - b.y)), .string (qs (b.x - a.x)), .string (qs ((a.y - b.y) * a.x + (b.x - a.x) * a.y))] 73) := Lib.hid (Blk.ext HB4_11.out e12)
  clear e12 c4_1
  have c4_2 := HB4_12.out.cell 2 rfl
  go_wp2_with fail
  refine (long_no ((a.y - b.y) * a.x + (b.x - a.x) * a.y) _ HR.out.z).mono ?_; rintro e w13 ⟨rfl, e13⟩
  have HX13 : Hid (Ext w w13) := Lib.hid (HX12.out.trans e13)
  have HB2_13 := Lib.hid (Blk.ext HB2_12.out e13)
  have HB4_13 : Hid (Blk w13 (i4) #[.string (qs (a.y - b.y)), .string (qs (b.x - a.x)), .string (qs ((a.y - b.y) * a.x + (b.x - a.x) * a.y))] 73) := Lib.hid (Blk.ext HB4_12.out e13)
  clear e13 c4_2
  have c4_0 := HB4_13.out.cell 0 rfl
  have c4_1 := HB4_13.out.cell 1 rfl
  have c4_2 := HB4_13.out.cell 2 rfl
  have c2_0 := HB2_13.out.cell 0 rfl
  have f2_0 := HB2_13.out.free 0
  have c2_1 := HB2_13.out.cell 1 rfl
  have f2_1 := HB2_13.out.free 1
  have c2_2 := HB2_13.out.cell 2 rfl
  have f2_2 := HB2_13.out.free 2
  go_wp2_with fail
  refine wp_name (fun W => Ext w W ∧ Blk W (w.heap.size + 1 + 1) #[.string (qs (a.y - b.y)), .string (qs (b.x - a.x)), .string (qs ((a.y - b.y) * a.x + (b.x - a.x) * a.y))] 73) ⟨(((HX13.out.setCell (by have := HGEB2.out; first | omega | (simp only []; omega) | (simp; omega)) _).setCell (by have := HGEB2.out; first | omega | (simp only []; omega) | (simp; omega)) _).setCell (by have := HGEB2.out; first | omega | (simp only []; omega) | (simp; omega)) _), (((HB2_13.out.set 0 (.string (qs (a.y - b.y)))).set 1 (.string (qs (b.x - a.x)))).set 2 (.string (qs ((a.y - b.y) * a.x + (b.x - a.x) * a.y))))⟩ ?_
  rintro w14 ⟨e14, bB2_14⟩
  have HX14 := Lib.hid e14; have HB2_14 := Lib.hid bB2_14
  clear e14 bB2_14 c4_0 c4_1 c4_2 c2_0 f2_0 c2_1 f2_1 c2_2 f2_2
  have gB2_0 := HB2_14.out.cell 0 rfl
  have gB2_1 := HB2_14.out.cell 1 rfl
  have gB2_2 := HB2_14.out.cell 2 rfl
  refine bodyPost_ret (v := .tuple #[.agg #[.string (qs (a.y - b.y)), .string (qs (b.x - a.x)), .string (qs ((a.y - b.y) * a.x + (b.x - a.x) * a.y))], .int .i64 0]) (by simp [results, Tryz.results40, go_sem, gB2_0, gB2_1, gB2_2]) rfl ⟨rfl, HX14.out⟩

theorem vThrough_ok (a b : P2) (w : World) (g : Gd w) (ha : PB 200 a) (hb : PB 200 b) (hr : VB 200 ⟨a.y - b.y, b.x - a.x, (a.y - b.y) * a.x + (b.x - a.x) * a.y⟩) (h : a ≠ b) : Calls Tryz.prog 40 #[pv a, pv b] w (Ret w (.tuple #[vv ⟨a.y - b.y, b.x - a.x, (a.y - b.y) * a.x + (b.x - a.x) * a.y⟩, .int .i64 0])) := by
  by_cases h0 : a.x = b.x
  · exact vThrough_1 a b w g ha hb hr h0 (fun e => h (by cases a; cases b; simp_all))
  · exact vThrough_0 a b w g ha hb hr h0

set_option maxRecDepth 100000 in
set_option maxHeartbeats 2000000 in
theorem vThrough_same (a : P2) (w : World) (g : Gd w) (ha : PB 200 a) : Calls Tryz.prog 40 #[.agg #[.string (qs a.x), .string (qs a.y)], .agg #[.string (qs a.x), .string (qs a.y)]] w (Ret w (.tuple #[.agg #[.string ⟨#[]⟩, .string ⟨#[]⟩, .string ⟨#[]⟩], .int .i64 17])) := by
  have HA := Lib.hid ha
  have HG := Lib.hid g
  clear ha g
  go_enter Tryz.func40, Tryz.ntmps40
  go_wp2_with fail
  refine (points2_ok a a (w.heap.size + 1 + 1 + 1) _ (HG.out.ext (((((Ext.refl w).alloc _).alloc _).alloc _).alloc _)) (HA.out.mono (by omega)) (HA.out.mono (by omega)) (Blk.new' (w := _) (cs := #[.string (qs a.x), .string (qs a.y), .string (qs a.x), .string (qs a.y)]) (t := 62) (by first | rfl | (simp only [World.size_alloc]; done) | (simp only [World.size_alloc]; omega) | simp))).mono ?_; rintro e w1 ⟨rfl, e1⟩
  have HX1 : Hid (Ext w w1) := Lib.hid ((((((Ext.refl w).alloc _).alloc _).alloc _).alloc _).trans e1)
  have HB0_1 : Hid (Blk w1 (w.heap.size) #[.string (qs a.x), .string (qs a.y)] 62) := Lib.hid (Blk.ext ((((Blk.new' (w := _) (cs := #[.string (qs a.x), .string (qs a.y)]) (t := 62) (by first | rfl | (simp only [World.size_alloc]; done) | (simp only [World.size_alloc]; omega) | simp)).alloc _).alloc _).alloc _) e1)
  have HB1_1 : Hid (Blk w1 (w.heap.size + 1) #[.string (qs a.x), .string (qs a.y)] 62) := Lib.hid (Blk.ext (((Blk.new' (w := _) (cs := #[.string (qs a.x), .string (qs a.y)]) (t := 62) (by first | rfl | (simp only [World.size_alloc]; done) | (simp only [World.size_alloc]; omega) | simp)).alloc _).alloc _) e1)
  have HB2_1 : Hid (Blk w1 (w.heap.size + 1 + 1) #[.string ⟨#[]⟩, .string ⟨#[]⟩, .string ⟨#[]⟩] 73) := Lib.hid (Blk.ext ((Blk.new' (w := _) (cs := #[.string ⟨#[]⟩, .string ⟨#[]⟩, .string ⟨#[]⟩]) (t := 73) (by first | rfl | (simp only [World.size_alloc]; done) | (simp only [World.size_alloc]; omega) | simp)).alloc _) e1)
  have HB3_1 : Hid (Blk w1 (w.heap.size + 1 + 1 + 1) #[.string (qs a.x), .string (qs a.y), .string (qs a.x), .string (qs a.y)] 62) := Lib.hid (Blk.ext (Blk.new' (w := _) (cs := #[.string (qs a.x), .string (qs a.y), .string (qs a.x), .string (qs a.y)]) (t := 62) (by first | rfl | (simp only [World.size_alloc]; done) | (simp only [World.size_alloc]; omega) | simp)) e1)
  have HGEB0 : Hid (w.heap.size ≤ w.heap.size) := Lib.hid (by first | omega | (simp only []; omega) | (simp; omega))
  have HGEB1 : Hid (w.heap.size ≤ w.heap.size + 1) := Lib.hid (by first | omega | (simp only []; omega) | (simp; omega))
  have HGEB2 : Hid (w.heap.size ≤ w.heap.size + 1 + 1) := Lib.hid (by first | omega | (simp only []; omega) | (simp; omega))
  have HGEB3 : Hid (w.heap.size ≤ w.heap.size + 1 + 1 + 1) := Lib.hid (by first | omega | (simp only []; omega) | (simp; omega))
  clear e1
  have c0_0 := HB0_1.out.cell 0 rfl
  have c0_1 := HB0_1.out.cell 1 rfl
  have c1_0 := HB1_1.out.cell 0 rfl
  have c1_1 := HB1_1.out.cell 1 rfl
  have c2_0 := HB2_1.out.cell 0 rfl
  have f2_0 := HB2_1.out.free 0
  have c2_1 := HB2_1.out.cell 1 rfl
  have f2_1 := HB2_1.out.free 1
  have c2_2 := HB2_1.out.cell 2 rfl
  have f2_2 := HB2_1.out.free 2
  go_wp2_with fail
  refine wp_name (fun W => Ext w W ∧ Blk W (w.heap.size + 1 + 1) #[.string ⟨#[]⟩, .string ⟨#[]⟩, .string ⟨#[]⟩] 73) ⟨(((HX1.out.setCell (by have := HGEB2.out; first | omega | (simp only []; omega) | (simp; omega)) _).setCell (by have := HGEB2.out; first | omega | (simp only []; omega) | (simp; omega)) _).setCell (by have := HGEB2.out; first | omega | (simp only []; omega) | (simp; omega)) _), (((HB2_1.out.set 0 (.string ⟨#[]⟩)).set 1 (.string ⟨#[]⟩)).set 2 (.string ⟨#[]⟩))⟩ ?_
  rintro w2 ⟨e2, bB2_2⟩
  have HX2 := Lib.hid e2; have HB2_2 := Lib.hid bB2_2
  clear e2 bB2_2 c0_0 c0_1 c1_0 c1_1 c2_0 f2_0 c2_1 f2_1 c2_2 f2_2
  have gB2_0 := HB2_2.out.cell 0 rfl
  have gB2_1 := HB2_2.out.cell 1 rfl
  have gB2_2 := HB2_2.out.cell 2 rfl
  refine bodyPost_ret (v := .tuple #[.agg #[.string ⟨#[]⟩, .string ⟨#[]⟩, .string ⟨#[]⟩], .int .i64 17]) (by simp [results, Tryz.results40, go_sem, gB2_0, gB2_1, gB2_2]) rfl ⟨rfl, HX2.out⟩

end Go.Proofs.YtglppcmegocphaaGreatDoor

namespace Go.Proofs.YtglppcmegocphaaGreatDoor
open Go Go.RowKit
set_option maxRecDepth 100000 in
set_option maxHeartbeats 2000000 in
theorem vMeet_none (a b : V3) (w : World) (g : Gd w) (ha : VB 200 a) (hb : VB 200 b) (hz : ¬ (a.x = 0 ∧ a.y = 0)) (hy : ¬ (b.x = 0 ∧ b.y = 0)) (h0 : a.x * b.y - a.y * b.x = 0) : Calls Tryz.prog 43 #[.agg #[.string (qs a.x), .string (qs a.y), .string (qs a.z)], .agg #[.string (qs b.x), .string (qs b.y), .string (qs b.z)]] w (Ret w (.tuple #[.agg #[.string ⟨#[]⟩, .string ⟨#[]⟩], .bool false, .int .i64 0])) := by
  have HA := Lib.hid ha
  have HB := Lib.hid hb
  have HZ := Lib.hid hz
  have HY := Lib.hid hy
  have HG := Lib.hid g
  clear ha hb hz hy g
  have h0_t := qs_is0 h0
  clear h0
  have ix0 : ∀ W, (Instr.index 129 (.agg #[.string (qs a.x), .string (qs a.y), .string (qs a.z), .string (qs b.x), .string (qs b.y), .string (qs b.z)]) (.int .i64 0)).run Tryz.prog W = .ok (.agg #[.string (qs a.x), .string (qs a.y), .string (qs a.z)]) W := fun W => by kernel_rfl
  have ix1 : ∀ W, (Instr.index 129 (.agg #[.string (qs a.x), .string (qs a.y), .string (qs a.z), .string (qs b.x), .string (qs b.y), .string (qs b.z)]) (.int .i64 1)).run Tryz.prog W = .ok (.agg #[.string (qs b.x), .string (qs b.y), .string (qs b.z)]) W := fun W => by kernel_rfl
  go_enter Tryz.func43, Tryz.ntmps43
  go_wp2_with fail
  refine wp_loop_rounds 3 ?_
  rw [rounds_succ]
  go_wp2_with fail
  refine (vLine_ok a _ (HG.out.ext (((((Ext.refl w).alloc _).alloc _).alloc _).alloc _)) HA.out HZ.out).mono ?_; rintro e w1 ⟨rfl, e1⟩
  have HX1 : Hid (Ext w w1) := Lib.hid ((((((Ext.refl w).alloc _).alloc _).alloc _).alloc _).trans e1)
  have HB0_1 : Hid (Blk w1 (w.heap.size) #[.string (qs a.x), .string (qs a.y), .string (qs a.z)] 73) := Lib.hid (Blk.ext ((((Blk.new' (w := _) (cs := #[.string (qs a.x), .string (qs a.y), .string (qs a.z)]) (t := 73) (by first | rfl | (simp only [World.size_alloc]; done) | (simp only [World.size_alloc]; omega) | simp)).alloc _).alloc _).alloc _) e1)
  have HB1_1 : Hid (Blk w1 (w.heap.size + 1) #[.string (qs b.x), .string (qs b.y), .string (qs b.z)] 73) := Lib.hid (Blk.ext (((Blk.new' (w := _) (cs := #[.string (qs b.x), .string (qs b.y), .string (qs b.z)]) (t := 73) (by first | rfl | (simp only [World.size_alloc]; done) | (simp only [World.size_alloc]; omega) | simp)).alloc _).alloc _) e1)
  have HB2_1 : Hid (Blk w1 (w.heap.size + 1 + 1) #[.string ⟨#[]⟩, .string ⟨#[]⟩] 62) := Lib.hid (Blk.ext ((Blk.new' (w := _) (cs := #[.string ⟨#[]⟩, .string ⟨#[]⟩]) (t := 62) (by first | rfl | (simp only [World.size_alloc]; done) | (simp only [World.size_alloc]; omega) | simp)).alloc _) e1)
  have HGEB0 : Hid (w.heap.size ≤ w.heap.size) := Lib.hid (by first | omega | (simp only []; omega) | (simp; omega))
  have HGEB1 : Hid (w.heap.size ≤ w.heap.size + 1) := Lib.hid (by first | omega | (simp only []; omega) | (simp; omega))
  have HGEB2 : Hid (w.heap.size ≤ w.heap.size + 1 + 1) := Lib.hid (by first | omega | (simp only []; omega) | (simp; omega))
  clear e1
  go_wp2_with fail
  rw [rounds_succ]
  go_wp2_with fail
  refine (vLine_ok b _ (HG.out.ext (HX1.out.alloc _)) HB.out HY.out).mono ?_; rintro e w2 ⟨rfl, e2⟩
  have HX2 : Hid (Ext w w2) := Lib.hid ((HX1.out.alloc _).trans e2)
  have HB0_2 : Hid (Blk w2 (w.heap.size) #[.string (qs a.x), .string (qs a.y), .string (qs a.z)] 73) := Lib.hid (Blk.ext (HB0_1.out.alloc _) e2)
  have HB1_2 : Hid (Blk w2 (w.heap.size + 1) #[.string (qs b.x), .string (qs b.y), .string (qs b.z)] 73) := Lib.hid (Blk.ext (HB1_1.out.alloc _) e2)
  have HB2_2 : Hid (Blk w2 (w.heap.size + 1 + 1) #[.string ⟨#[]⟩, .string ⟨#[]⟩] 62) := Lib.hid (Blk.ext (HB2_1.out.alloc _) e2)
  clear e2
  go_wp2_with fail
  rw [rounds_succ]
  have c0_0 := HB0_2.out.cell 0 rfl
  have c0_1 := HB0_2.out.cell 1 rfl
  have c1_0 := HB1_2.out.cell 0 rfl
  have c1_1 := HB1_2.out.cell 1 rfl
  go_wp2_with fail
  refine (vminor_c a.x a.y b.x b.y _ (HG.out.ext HX2.out) HA.out.x HA.out.y HB.out.x HB.out.y (by omega) (by omega) (by omega) (by omega)).mono ?_; rintro e w3 ⟨rfl, e3⟩
  have HX3 : Hid (Ext w w3) := Lib.hid (HX2.out.trans e3)
  have HB2_3 := Lib.hid (Blk.ext HB2_2.out e3)
  clear e3 c0_0 c0_1 c1_0 c1_1
  have c2_0 := HB2_3.out.cell 0 rfl
  have f2_0 := HB2_3.out.free 0
  have c2_1 := HB2_3.out.cell 1 rfl
  have f2_1 := HB2_3.out.free 1
  go_wp2_with fail
  refine wp_name (fun W => Ext w W ∧ Blk W (w.heap.size + 1 + 1) #[.string ⟨#[]⟩, .string ⟨#[]⟩] 62) ⟨((HX3.out.setCell (by have := HGEB2.out; first | omega | (simp only []; omega) | (simp; omega)) _).setCell (by have := HGEB2.out; first | omega | (simp only []; omega) | (simp; omega)) _), ((HB2_3.out.set 0 (.string ⟨#[]⟩)).set 1 (.string ⟨#[]⟩))⟩ ?_
  rintro w4 ⟨e4, bB2_4⟩
  have HX4 := Lib.hid e4; have HB2_4 := Lib.hid bB2_4
  clear e4 bB2_4 c2_0 f2_0 c2_1 f2_1
  have gB2_0 := HB2_4.out.cell 0 rfl
  have gB2_1 := HB2_4.out.cell 1 rfl
  refine bodyPost_ret (v := .tuple #[.agg #[.string ⟨#[]⟩, .string ⟨#[]⟩], .bool false, .int .i64 0]) (by simp [results, Tryz.results43, go_sem, gB2_0, gB2_1]) rfl ⟨rfl, HX4.out⟩

set_option maxRecDepth 100000 in
set_option maxHeartbeats 2000000 in
theorem vMeet_ok (a b : V3) (w : World) (g : Gd w) (ha : VB 200 a) (hb : VB 200 b) (hz : ¬ (a.x = 0 ∧ a.y = 0)) (hy : ¬ (b.x = 0 ∧ b.y = 0)) (h0 : a.x * b.y - a.y * b.x ≠ 0) (hr : PB 200 ⟨(a.z * b.y - a.y * b.z) / (a.x * b.y - a.y * b.x), (a.x * b.z - a.z * b.x) / (a.x * b.y - a.y * b.x)⟩) : Calls Tryz.prog 43 #[.agg #[.string (qs a.x), .string (qs a.y), .string (qs a.z)], .agg #[.string (qs b.x), .string (qs b.y), .string (qs b.z)]] w (Ret w (.tuple #[.agg #[.string (qs ((a.z * b.y - a.y * b.z) / (a.x * b.y - a.y * b.x))), .string (qs ((a.x * b.z - a.z * b.x) / (a.x * b.y - a.y * b.x)))], .bool true, .int .i64 0])) := by
  have HA := Lib.hid ha
  have HB := Lib.hid hb
  have HZ := Lib.hid hz
  have HY := Lib.hid hy
  have HG := Lib.hid g
  have HR := Lib.hid hr
  clear ha hb hz hy g hr
  have h0_t := qs_not0 h0
  have H0 := Lib.hid h0
  clear h0
  have ix0 : ∀ W, (Instr.index 129 (.agg #[.string (qs a.x), .string (qs a.y), .string (qs a.z), .string (qs b.x), .string (qs b.y), .string (qs b.z)]) (.int .i64 0)).run Tryz.prog W = .ok (.agg #[.string (qs a.x), .string (qs a.y), .string (qs a.z)]) W := fun W => by kernel_rfl
  have ix1 : ∀ W, (Instr.index 129 (.agg #[.string (qs a.x), .string (qs a.y), .string (qs a.z), .string (qs b.x), .string (qs b.y), .string (qs b.z)]) (.int .i64 1)).run Tryz.prog W = .ok (.agg #[.string (qs b.x), .string (qs b.y), .string (qs b.z)]) W := fun W => by kernel_rfl
  go_enter Tryz.func43, Tryz.ntmps43
  go_wp2_with fail
  refine wp_loop_rounds 3 ?_
  rw [rounds_succ]
  go_wp2_with fail
  refine (vLine_ok a _ (HG.out.ext (((((Ext.refl w).alloc _).alloc _).alloc _).alloc _)) HA.out HZ.out).mono ?_; rintro e w1 ⟨rfl, e1⟩
  have HX1 : Hid (Ext w w1) := Lib.hid ((((((Ext.refl w).alloc _).alloc _).alloc _).alloc _).trans e1)
  have HB0_1 : Hid (Blk w1 (w.heap.size) #[.string (qs a.x), .string (qs a.y), .string (qs a.z)] 73) := Lib.hid (Blk.ext ((((Blk.new' (w := _) (cs := #[.string (qs a.x), .string (qs a.y), .string (qs a.z)]) (t := 73) (by first | rfl | (simp only [World.size_alloc]; done) | (simp only [World.size_alloc]; omega) | simp)).alloc _).alloc _).alloc _) e1)
  have HB1_1 : Hid (Blk w1 (w.heap.size + 1) #[.string (qs b.x), .string (qs b.y), .string (qs b.z)] 73) := Lib.hid (Blk.ext (((Blk.new' (w := _) (cs := #[.string (qs b.x), .string (qs b.y), .string (qs b.z)]) (t := 73) (by first | rfl | (simp only [World.size_alloc]; done) | (simp only [World.size_alloc]; omega) | simp)).alloc _).alloc _) e1)
  have HB2_1 : Hid (Blk w1 (w.heap.size + 1 + 1) #[.string ⟨#[]⟩, .string ⟨#[]⟩] 62) := Lib.hid (Blk.ext ((Blk.new' (w := _) (cs := #[.string ⟨#[]⟩, .string ⟨#[]⟩]) (t := 62) (by first | rfl | (simp only [World.size_alloc]; done) | (simp only [World.size_alloc]; omega) | simp)).alloc _) e1)
  have HGEB0 : Hid (w.heap.size ≤ w.heap.size) := Lib.hid (by first | omega | (simp only []; omega) | (simp; omega))
  have HGEB1 : Hid (w.heap.size ≤ w.heap.size + 1) := Lib.hid (by first | omega | (simp only []; omega) | (simp; omega))
  have HGEB2 : Hid (w.heap.size ≤ w.heap.size + 1 + 1) := Lib.hid (by first | omega | (simp only []; omega) | (simp; omega))
  clear e1
  go_wp2_with fail
  rw [rounds_succ]
  go_wp2_with fail
  refine (vLine_ok b _ (HG.out.ext (HX1.out.alloc _)) HB.out HY.out).mono ?_; rintro e w2 ⟨rfl, e2⟩
  have HX2 : Hid (Ext w w2) := Lib.hid ((HX1.out.alloc _).trans e2)
  have HB0_2 : Hid (Blk w2 (w.heap.size) #[.string (qs a.x), .string (qs a.y), .string (qs a.z)] 73) := Lib.hid (Blk.ext (HB0_1.out.alloc _) e2)
  have HB1_2 : Hid (Blk w2 (w.heap.size + 1) #[.string (qs b.x), .string (qs b.y), .string (qs b.z)] 73) := Lib.hid (Blk.ext (HB1_1.out.alloc _) e2)
  have HB2_2 : Hid (Blk w2 (w.heap.size + 1 + 1) #[.string ⟨#[]⟩, .string ⟨#[]⟩] 62) := Lib.hid (Blk.ext (HB2_1.out.alloc _) e2)
  clear e2
  go_wp2_with fail
  rw [rounds_succ]
  have c0_0 := HB0_2.out.cell 0 rfl
  have c0_1 := HB0_2.out.cell 1 rfl
  have c1_0 := HB1_2.out.cell 0 rfl
  have c1_1 := HB1_2.out.cell 1 rfl
  go_wp2_with fail
  refine (vminor_c a.x a.y b.x b.y _ (HG.out.ext HX2.out) HA.out.x HA.out.y HB.out.x HB.out.y (by omega) (by omega) (by omega) (by omega)).mono ?_; rintro e w3 ⟨rfl, e3⟩
  have HX3 : Hid (Ext w w3) := Lib.hid (HX2.out.trans e3)
  have HB0_3 := Lib.hid (Blk.ext HB0_2.out e3)
  have HB1_3 := Lib.hid (Blk.ext HB1_2.out e3)
  have HB2_3 := Lib.hid (Blk.ext HB2_2.out e3)
  clear e3 c0_0 c0_1 c1_0 c1_1
  have c0_2 := HB0_3.out.cell 2 rfl
  have c0_1 := HB0_3.out.cell 1 rfl
  have c1_2 := HB1_3.out.cell 2 rfl
  have c1_1 := HB1_3.out.cell 1 rfl
  go_wp2_with fail
  refine (vminor_c a.z a.y b.z b.y _ (HG.out.ext HX3.out) HA.out.z HA.out.y HB.out.z HB.out.y (by omega) (by omega) (by omega) (by omega)).mono ?_; rintro e w4 ⟨rfl, e4⟩
  have HX4 : Hid (Ext w w4) := Lib.hid (HX3.out.trans e4)
  have HB0_4 := Lib.hid (Blk.ext HB0_3.out e4)
  have HB1_4 := Lib.hid (Blk.ext HB1_3.out e4)
  have HB2_4 := Lib.hid (Blk.ext HB2_3.out e4)
  clear e4 c0_2 c0_1 c1_2 c1_1
  go_wp2_with fail
  refine (rdiv_c (a.z * b.y - a.y * b.z) (a.x * b.y - a.y * b.x) _ (HG.out.ext HX4.out) ((HA.out.z.mul HB.out.y).sub (HA.out.y.mul HB.out.z)) ((HA.out.x.mul HB.out.y).sub (HA.out.y.mul HB.out.x)) (by omega) (by omega) (by omega) H0.out).mono ?_; rintro e w5 ⟨rfl, e5⟩
  have HX5 : Hid (Ext w w5) := Lib.hid (HX4.out.trans e5)
  have HB0_5 := Lib.hid (Blk.ext HB0_4.out e5)
  have HB1_5 := Lib.hid (Blk.ext HB1_4.out e5)
  have HB2_5 := Lib.hid (Blk.ext HB2_4.out e5)
  clear e5
  have c0_0 := HB0_5.out.cell 0 rfl
  have c0_2 := HB0_5.out.cell 2 rfl
  have c1_0 := HB1_5.out.cell 0 rfl
  have c1_2 := HB1_5.out.cell 2 rfl
  go_wp2_with fail
  refine (vminor_c a.x a.z b.x b.z _ (HG.out.ext HX5.out) HA.out.x HA.out.z HB.out.x HB.out.z (by omega) (by omega) (by omega) (by omega)).mono ?_; rintro e w6 ⟨rfl, e6⟩
  have HX6 : Hid (Ext w w6) := Lib.hid (HX5.out.trans e6)
  have HB2_6 := Lib.hid (Blk.ext HB2_5.out e6)
  clear e6 c0_0 c0_2 c1_0 c1_2
  go_wp2_with fail
  refine (rdiv_c (a.x * b.z - a.z * b.x) (a.x * b.y - a.y * b.x) _ (HG.out.ext HX6.out) ((HA.out.x.mul HB.out.z).sub (HA.out.z.mul HB.out.x)) ((HA.out.x.mul HB.out.y).sub (HA.out.y.mul HB.out.x)) (by omega) (by omega) (by omega) H0.out).mono ?_; rintro e w7 ⟨rfl, e7⟩
  have HX7 : Hid (Ext w w7) := Lib.hid (HX6.out.trans e7)
  have HB2_7 := Lib.hid (Blk.ext HB2_6.out e7)
  clear e7
  go_wp2_with fail
  refine (vpoint_ok ((a.z * b.y - a.y * b.z) / (a.x * b.y - a.y * b.x)) ((a.x * b.z - a.z * b.x) / (a.x * b.y - a.y * b.x)) _ HR.out.x HR.out.y).mono ?_; rintro e w8 ⟨rfl, e8⟩
  have HX8 : Hid (Ext w w8) := Lib.hid (HX7.out.trans e8)
  have HB2_8 := Lib.hid (Blk.ext HB2_7.out e8)
  clear e8
  have c2_0 := HB2_8.out.cell 0 rfl
  have f2_0 := HB2_8.out.free 0
  have c2_1 := HB2_8.out.cell 1 rfl
  have f2_1 := HB2_8.out.free 1
  go_upto_region 16 with fail
  refine wp_name (fun W => Ext w W ∧ Blk W (w.heap.size + 1 + 1) #[.string (qs ((a.z * b.y - a.y * b.z) / (a.x * b.y - a.y * b.x))), .string (qs ((a.x * b.z - a.z * b.x) / (a.x * b.y - a.y * b.x)))] 62) ⟨((HX8.out.setCell (by have := HGEB2.out; first | omega | (simp only []; omega) | (simp; omega)) _).setCell (by have := HGEB2.out; first | omega | (simp only []; omega) | (simp; omega)) _), ((HB2_8.out.set 0 (.string (qs ((a.z * b.y - a.y * b.z) / (a.x * b.y - a.y * b.x))))).set 1 (.string (qs ((a.x * b.z - a.z * b.x) / (a.x * b.y - a.y * b.x)))))⟩ ?_
  rintro w9 ⟨e9, bB2_9⟩
  have HX9 := Lib.hid e9; have HB2_9 := Lib.hid bB2_9
  clear e9 bB2_9 c2_0 f2_0 c2_1 f2_1
  have c2_0 := HB2_9.out.cell 0 rfl
  have c2_1 := HB2_9.out.cell 1 rfl
  have f2_0 := HB2_9.out.free 0
  have f2_1 := HB2_9.out.free 1
  go_wp2_with fail
  refine wp_name (fun W => Ext w W ∧ Blk W (w.heap.size + 1 + 1) #[.string (qs ((a.z * b.y - a.y * b.z) / (a.x * b.y - a.y * b.x))), .string (qs ((a.x * b.z - a.z * b.x) / (a.x * b.y - a.y * b.x)))] 62) ⟨((HX9.out.setCell (by have := HGEB2.out; first | omega | (simp only []; omega) | (simp; omega)) _).setCell (by have := HGEB2.out; first | omega | (simp only []; omega) | (simp; omega)) _), ((HB2_9.out.set 0 (.string (qs ((a.z * b.y - a.y * b.z) / (a.x * b.y - a.y * b.x))))).set 1 (.string (qs ((a.x * b.z - a.z * b.x) / (a.x * b.y - a.y * b.x)))))⟩ ?_
  rintro w10 ⟨e10, bB2_10⟩
  have HX10 := Lib.hid e10; have HB2_10 := Lib.hid bB2_10
  clear e10 bB2_10 c2_0 c2_1 f2_0 f2_1
  have gB2_0 := HB2_10.out.cell 0 rfl
  have gB2_1 := HB2_10.out.cell 1 rfl
  refine bodyPost_ret (v := .tuple #[.agg #[.string (qs ((a.z * b.y - a.y * b.z) / (a.x * b.y - a.y * b.x))), .string (qs ((a.x * b.z - a.z * b.x) / (a.x * b.y - a.y * b.x)))], .bool true, .int .i64 0]) (by simp [results, Tryz.results43, go_sem, gB2_0, gB2_1]) rfl ⟨rfl, HX10.out⟩

set_option maxRecDepth 100000 in
set_option maxHeartbeats 2000000 in
theorem vCut_same (l : V3) (a b : P2) (w : World) (g : Gd w) (hl : VB 200 l) (ha : PB 200 a) (hb : PB 200 b) (hz : ¬ (l.x = 0 ∧ l.y = 0)) (h0 : l.x * a.x + l.y * a.y - l.z = l.x * b.x + l.y * b.y - l.z) : Calls Tryz.prog 45 #[.agg #[.string (qs l.x), .string (qs l.y), .string (qs l.z)], .agg #[.string (qs a.x), .string (qs a.y)], .agg #[.string (qs b.x), .string (qs b.y)]] w (Ret w (.tuple #[.string ⟨#[]⟩, .bool false, .int .i64 0])) := by
  have HL := Lib.hid hl
  have HA := Lib.hid ha
  have HB := Lib.hid hb
  have HZ := Lib.hid hz
  have HG := Lib.hid g
  clear hl ha hb hz g
  have h0_t := qs_eqL h0
  clear h0
  go_enter Tryz.func45, Tryz.ntmps45
  go_wp2_with fail
  refine (vLine_ok l _ (HG.out.ext ((((Ext.refl w).alloc _).alloc _).alloc _)) HL.out HZ.out).mono ?_; rintro e w1 ⟨rfl, e1⟩
  have HX1 : Hid (Ext w w1) := Lib.hid (((((Ext.refl w).alloc _).alloc _).alloc _).trans e1)
  have HB0_1 : Hid (Blk w1 (w.heap.size) #[.string (qs l.x), .string (qs l.y), .string (qs l.z)] 73) := Lib.hid (Blk.ext (((Blk.new' (w := _) (cs := #[.string (qs l.x), .string (qs l.y), .string (qs l.z)]) (t := 73) (by first | rfl | (simp only [World.size_alloc]; done) | (simp only [World.size_alloc]; omega) | simp)).alloc _).alloc _) e1)
  have HB1_1 : Hid (Blk w1 (w.heap.size + 1) #[.string (qs a.x), .string (qs a.y)] 62) := Lib.hid (Blk.ext ((Blk.new' (w := _) (cs := #[.string (qs a.x), .string (qs a.y)]) (t := 62) (by first | rfl | (simp only [World.size_alloc]; done) | (simp only [World.size_alloc]; omega) | simp)).alloc _) e1)
  have HB2_1 : Hid (Blk w1 (w.heap.size + 1 + 1) #[.string (qs b.x), .string (qs b.y)] 62) := Lib.hid (Blk.ext (Blk.new' (w := _) (cs := #[.string (qs b.x), .string (qs b.y)]) (t := 62) (by first | rfl | (simp only [World.size_alloc]; done) | (simp only [World.size_alloc]; omega) | simp)) e1)
  have HGEB0 : Hid (w.heap.size ≤ w.heap.size) := Lib.hid (by first | omega | (simp only []; omega) | (simp; omega))
  have HGEB1 : Hid (w.heap.size ≤ w.heap.size + 1) := Lib.hid (by first | omega | (simp only []; omega) | (simp; omega))
  have HGEB2 : Hid (w.heap.size ≤ w.heap.size + 1 + 1) := Lib.hid (by first | omega | (simp only []; omega) | (simp; omega))
  clear e1
  have c1_0 := HB1_1.out.cell 0 rfl
  have c1_1 := HB1_1.out.cell 1 rfl
  have c2_0 := HB2_1.out.cell 0 rfl
  have c2_1 := HB2_1.out.cell 1 rfl
  go_wp2_with fail
  refine (points2_ok a b (w1.heap.size) _ (HG.out.ext (HX1.out.alloc _)) (HA.out.mono (by omega)) (HB.out.mono (by omega)) (Blk.new' (w := _) (cs := #[.string (qs a.x), .string (qs a.y), .string (qs b.x), .string (qs b.y)]) (t := 62) (by first | rfl | (simp only [World.size_alloc]; done) | (simp only [World.size_alloc]; omega) | simp))).mono ?_; rintro e w2 ⟨rfl, e2⟩
  have HX2 : Hid (Ext w w2) := Lib.hid ((HX1.out.alloc _).trans e2)
  have HB0_2 : Hid (Blk w2 (w.heap.size) #[.string (qs l.x), .string (qs l.y), .string (qs l.z)] 73) := Lib.hid (Blk.ext (HB0_1.out.alloc _) e2)
  have HB1_2 : Hid (Blk w2 (w.heap.size + 1) #[.string (qs a.x), .string (qs a.y)] 62) := Lib.hid (Blk.ext (HB1_1.out.alloc _) e2)
  have HB2_2 : Hid (Blk w2 (w.heap.size + 1 + 1) #[.string (qs b.x), .string (qs b.y)] 62) := Lib.hid (Blk.ext (HB2_1.out.alloc _) e2)
  have HB3_2 : Hid (Blk w2 (w1.heap.size) #[.string (qs a.x), .string (qs a.y), .string (qs b.x), .string (qs b.y)] 62) := Lib.hid (Blk.ext (Blk.new' (w := _) (cs := #[.string (qs a.x), .string (qs a.y), .string (qs b.x), .string (qs b.y)]) (t := 62) (by first | rfl | (simp only [World.size_alloc]; done) | (simp only [World.size_alloc]; omega) | simp)) e2)
  have HGEB3 : Hid (w.heap.size ≤ w1.heap.size) := Lib.hid (by have := HX1.out.size; first | omega | (simp only []; omega) | (simp; omega))
  clear e2 c1_0 c1_1 c2_0 c2_1
  go_wp2_with fail
  refine wp_name (fun W => Ext w W ∧ Blk W (w.heap.size) #[.string (qs l.x), .string (qs l.y), .string (qs l.z)] 73 ∧ Blk W (w.heap.size + 1) #[.string (qs a.x), .string (qs a.y)] 62 ∧ Blk W (w.heap.size + 1 + 1) #[.string (qs b.x), .string (qs b.y)] 62) ⟨HX2.out, HB0_2.out, HB1_2.out, HB2_2.out⟩ ?_
  rintro w3 ⟨e3, bB0_3, bB1_3, bB2_3⟩
  have HX3 := Lib.hid e3; have HB0_3 := Lib.hid bB0_3; have HB1_3 := Lib.hid bB1_3; have HB2_3 := Lib.hid bB2_3
  clear e3 bB0_3 bB1_3 bB2_3
  have hS3 : w3.cell? ⟨w.heap.size, 0, none⟩ = some (.string (qs l.x)) ∧ w3.cell? ⟨w.heap.size, 1, none⟩ = some (.string (qs l.y)) ∧ w3.cell? ⟨w.heap.size, 2, none⟩ = some (.string (qs l.z)) ∧ w3.cell? ⟨w.heap.size + 1, 0, none⟩ = some (.string (qs a.x)) ∧ w3.cell? ⟨w.heap.size + 1, 1, none⟩ = some (.string (qs a.y)) ∧ w3.cell? ⟨w.heap.size + 1 + 1, 0, none⟩ = some (.string (qs b.x)) ∧ w3.cell? ⟨w.heap.size + 1 + 1, 1, none⟩ = some (.string (qs b.y)) := ⟨HB0_3.out.cell 0 rfl, HB0_3.out.cell 1 rfl, HB0_3.out.cell 2 rfl, HB1_3.out.cell 0 rfl, HB1_3.out.cell 1 rfl, HB2_3.out.cell 0 rfl, HB2_3.out.cell 1 rfl⟩
  have HS3 := Lib.hid hS3; clear hS3
  go_region_held3 (fun w' => w'.cell? ⟨w.heap.size, 0, none⟩ = some (.string (qs l.x)) ∧ w'.cell? ⟨w.heap.size, 1, none⟩ = some (.string (qs l.y)) ∧ w'.cell? ⟨w.heap.size, 2, none⟩ = some (.string (qs l.z)) ∧ w'.cell? ⟨w.heap.size + 1, 0, none⟩ = some (.string (qs a.x)) ∧ w'.cell? ⟨w.heap.size + 1, 1, none⟩ = some (.string (qs a.y)) ∧ w'.cell? ⟨w.heap.size + 1 + 1, 0, none⟩ = some (.string (qs b.x)) ∧ w'.cell? ⟨w.heap.size + 1 + 1, 1, none⟩ = some (.string (qs b.y)))
    ((exact keepsH7 (by repeat (first | assumption | exact Ext.refl _ | apply Ext.drew | apply Ext.alloc | (refine Ext.setCell ?_ (by first | omega | (simp only []; omega) | (simp; omega)) _) | (refine Ext.trans ?_ (by assumption)))) HS3.out)) ((first
      | (go_at_call 103; ((with_reducible refine (vexcess_c l a _ (HG.out.ext (HX3.out.trans (by repeat (first | assumption | exact Ext.refl _ | apply Ext.drew | apply Ext.alloc | (refine Ext.setCell ?_ (by first | omega | (simp only []; omega) | (simp; omega)) _) | (refine Ext.trans ?_ (by assumption)))))) HL.out HA.out (by omega) (by omega)).mono ?_); rintro e w4 ⟨rfl, e4⟩))
      | (go_at_call 103; ((with_reducible refine (vexcess_c l b _ (HG.out.ext (HX3.out.trans (by repeat (first | assumption | exact Ext.refl _ | apply Ext.drew | apply Ext.alloc | (refine Ext.setCell ?_ (by first | omega | (simp only []; omega) | (simp; omega)) _) | (refine Ext.trans ?_ (by assumption)))))) HL.out HB.out (by omega) (by omega)).mono ?_); rintro e w5 ⟨rfl, e5⟩))))
  refine wp_name (fun W => Ext w W) (HX3.out.trans (((Ext.refl _).drew.trans e4).trans e5)) ?_
  rintro w6 e6
  have HX6 := Lib.hid e6
  clear e6
  go_wp2
  go_ret3
  exact ⟨rfl, HX6.out⟩

set_option maxRecDepth 100000 in
set_option maxHeartbeats 2000000 in
theorem vCut_none (l : V3) (a b : P2) (w : World) (g : Gd w) (hl : VB 200 l) (ha : PB 200 a) (hb : PB 200 b) (hz : ¬ (l.x = 0 ∧ l.y = 0)) (h0 : l.x * a.x + l.y * a.y - l.z ≠ l.x * b.x + l.y * b.y - l.z) (h1 : 0 < (l.x * a.x + l.y * a.y - l.z).num.sign * (l.x * b.x + l.y * b.y - l.z).num.sign) : Calls Tryz.prog 45 #[.agg #[.string (qs l.x), .string (qs l.y), .string (qs l.z)], .agg #[.string (qs a.x), .string (qs a.y)], .agg #[.string (qs b.x), .string (qs b.y)]] w (Ret w (.tuple #[.string ⟨#[]⟩, .bool false, .int .i64 0])) := by
  have HL := Lib.hid hl
  have HA := Lib.hid ha
  have HB := Lib.hid hb
  have HZ := Lib.hid hz
  have HG := Lib.hid g
  clear hl ha hb hz g
  have h0_t := qs_neL h0
  have hlo : -1 ≤ (l.x * a.x + l.y * a.y - l.z).num.sign * (l.x * b.x + l.y * b.y - l.z).num.sign := by rcases sign_cases (l.x * a.x + l.y * a.y - l.z).num with h | h | h <;> rcases sign_cases (l.x * b.x + l.y * b.y - l.z).num with h' | h' | h' <;> rw [h, h'] <;> decide
  have hhi : (l.x * a.x + l.y * a.y - l.z).num.sign * (l.x * b.x + l.y * b.y - l.z).num.sign ≤ 1 := by rcases sign_cases (l.x * a.x + l.y * a.y - l.z).num with h | h | h <;> rcases sign_cases (l.x * b.x + l.y * b.y - l.z).num with h' | h' | h' <;> rw [h, h'] <;> decide
  clear h0
  go_enter Tryz.func45, Tryz.ntmps45
  go_wp2_with fail
  refine (vLine_ok l _ (HG.out.ext ((((Ext.refl w).alloc _).alloc _).alloc _)) HL.out HZ.out).mono ?_; rintro e w1 ⟨rfl, e1⟩
  have HX1 : Hid (Ext w w1) := Lib.hid (((((Ext.refl w).alloc _).alloc _).alloc _).trans e1)
  have HB0_1 : Hid (Blk w1 (w.heap.size) #[.string (qs l.x), .string (qs l.y), .string (qs l.z)] 73) := Lib.hid (Blk.ext (((Blk.new' (w := _) (cs := #[.string (qs l.x), .string (qs l.y), .string (qs l.z)]) (t := 73) (by first | rfl | (simp only [World.size_alloc]; done) | (simp only [World.size_alloc]; omega) | simp)).alloc _).alloc _) e1)
  have HB1_1 : Hid (Blk w1 (w.heap.size + 1) #[.string (qs a.x), .string (qs a.y)] 62) := Lib.hid (Blk.ext ((Blk.new' (w := _) (cs := #[.string (qs a.x), .string (qs a.y)]) (t := 62) (by first | rfl | (simp only [World.size_alloc]; done) | (simp only [World.size_alloc]; omega) | simp)).alloc _) e1)
  have HB2_1 : Hid (Blk w1 (w.heap.size + 1 + 1) #[.string (qs b.x), .string (qs b.y)] 62) := Lib.hid (Blk.ext (Blk.new' (w := _) (cs := #[.string (qs b.x), .string (qs b.y)]) (t := 62) (by first | rfl | (simp only [World.size_alloc]; done) | (simp only [World.size_alloc]; omega) | simp)) e1)
  have HGEB0 : Hid (w.heap.size ≤ w.heap.size) := Lib.hid (by first | omega | (simp only []; omega) | (simp; omega))
  have HGEB1 : Hid (w.heap.size ≤ w.heap.size + 1) := Lib.hid (by first | omega | (simp only []; omega) | (simp; omega))
  have HGEB2 : Hid (w.heap.size ≤ w.heap.size + 1 + 1) := Lib.hid (by first | omega | (simp only []; omega) | (simp; omega))
  clear e1
  have c1_0 := HB1_1.out.cell 0 rfl
  have c1_1 := HB1_1.out.cell 1 rfl
  have c2_0 := HB2_1.out.cell 0 rfl
  have c2_1 := HB2_1.out.cell 1 rfl
  go_wp2_with fail
  refine (points2_ok a b (w1.heap.size) _ (HG.out.ext (HX1.out.alloc _)) (HA.out.mono (by omega)) (HB.out.mono (by omega)) (Blk.new' (w := _) (cs := #[.string (qs a.x), .string (qs a.y), .string (qs b.x), .string (qs b.y)]) (t := 62) (by first | rfl | (simp only [World.size_alloc]; done) | (simp only [World.size_alloc]; omega) | simp))).mono ?_; rintro e w2 ⟨rfl, e2⟩
  have HX2 : Hid (Ext w w2) := Lib.hid ((HX1.out.alloc _).trans e2)
  have HB0_2 : Hid (Blk w2 (w.heap.size) #[.string (qs l.x), .string (qs l.y), .string (qs l.z)] 73) := Lib.hid (Blk.ext (HB0_1.out.alloc _) e2)
  have HB1_2 : Hid (Blk w2 (w.heap.size + 1) #[.string (qs a.x), .string (qs a.y)] 62) := Lib.hid (Blk.ext (HB1_1.out.alloc _) e2)
  have HB2_2 : Hid (Blk w2 (w.heap.size + 1 + 1) #[.string (qs b.x), .string (qs b.y)] 62) := Lib.hid (Blk.ext (HB2_1.out.alloc _) e2)
  have HB3_2 : Hid (Blk w2 (w1.heap.size) #[.string (qs a.x), .string (qs a.y), .string (qs b.x), .string (qs b.y)] 62) := Lib.hid (Blk.ext (Blk.new' (w := _) (cs := #[.string (qs a.x), .string (qs a.y), .string (qs b.x), .string (qs b.y)]) (t := 62) (by first | rfl | (simp only [World.size_alloc]; done) | (simp only [World.size_alloc]; omega) | simp)) e2)
  have HGEB3 : Hid (w.heap.size ≤ w1.heap.size) := Lib.hid (by have := HX1.out.size; first | omega | (simp only []; omega) | (simp; omega))
  clear e2 c1_0 c1_1 c2_0 c2_1
  go_wp2_with fail
  refine wp_name (fun W => Ext w W ∧ Blk W (w.heap.size) #[.string (qs l.x), .string (qs l.y), .string (qs l.z)] 73 ∧ Blk W (w.heap.size + 1) #[.string (qs a.x), .string (qs a.y)] 62 ∧ Blk W (w.heap.size + 1 + 1) #[.string (qs b.x), .string (qs b.y)] 62) ⟨HX2.out, HB0_2.out, HB1_2.out, HB2_2.out⟩ ?_
  rintro w3 ⟨e3, bB0_3, bB1_3, bB2_3⟩
  have HX3 := Lib.hid e3; have HB0_3 := Lib.hid bB0_3; have HB1_3 := Lib.hid bB1_3; have HB2_3 := Lib.hid bB2_3
  clear e3 bB0_3 bB1_3 bB2_3
  have hS3 : w3.cell? ⟨w.heap.size, 0, none⟩ = some (.string (qs l.x)) ∧ w3.cell? ⟨w.heap.size, 1, none⟩ = some (.string (qs l.y)) ∧ w3.cell? ⟨w.heap.size, 2, none⟩ = some (.string (qs l.z)) ∧ w3.cell? ⟨w.heap.size + 1, 0, none⟩ = some (.string (qs a.x)) ∧ w3.cell? ⟨w.heap.size + 1, 1, none⟩ = some (.string (qs a.y)) ∧ w3.cell? ⟨w.heap.size + 1 + 1, 0, none⟩ = some (.string (qs b.x)) ∧ w3.cell? ⟨w.heap.size + 1 + 1, 1, none⟩ = some (.string (qs b.y)) := ⟨HB0_3.out.cell 0 rfl, HB0_3.out.cell 1 rfl, HB0_3.out.cell 2 rfl, HB1_3.out.cell 0 rfl, HB1_3.out.cell 1 rfl, HB2_3.out.cell 0 rfl, HB2_3.out.cell 1 rfl⟩
  have HS3 := Lib.hid hS3; clear hS3
  go_region_held3 (fun w' => w'.cell? ⟨w.heap.size, 0, none⟩ = some (.string (qs l.x)) ∧ w'.cell? ⟨w.heap.size, 1, none⟩ = some (.string (qs l.y)) ∧ w'.cell? ⟨w.heap.size, 2, none⟩ = some (.string (qs l.z)) ∧ w'.cell? ⟨w.heap.size + 1, 0, none⟩ = some (.string (qs a.x)) ∧ w'.cell? ⟨w.heap.size + 1, 1, none⟩ = some (.string (qs a.y)) ∧ w'.cell? ⟨w.heap.size + 1 + 1, 0, none⟩ = some (.string (qs b.x)) ∧ w'.cell? ⟨w.heap.size + 1 + 1, 1, none⟩ = some (.string (qs b.y)))
    ((exact keepsH7 (by repeat (first | assumption | exact Ext.refl _ | apply Ext.drew | apply Ext.alloc | (refine Ext.setCell ?_ (by first | omega | (simp only []; omega) | (simp; omega)) _) | (refine Ext.trans ?_ (by assumption)))) HS3.out)) ((first
      | (go_at_call 103; ((with_reducible refine (vexcess_c l a _ (HG.out.ext (HX3.out.trans (by repeat (first | assumption | exact Ext.refl _ | apply Ext.drew | apply Ext.alloc | (refine Ext.setCell ?_ (by first | omega | (simp only []; omega) | (simp; omega)) _) | (refine Ext.trans ?_ (by assumption)))))) HL.out HA.out (by omega) (by omega)).mono ?_); rintro e w4 ⟨rfl, e4⟩))
      | (go_at_call 103; ((with_reducible refine (vexcess_c l b _ (HG.out.ext (HX3.out.trans (by repeat (first | assumption | exact Ext.refl _ | apply Ext.drew | apply Ext.alloc | (refine Ext.setCell ?_ (by first | omega | (simp only []; omega) | (simp; omega)) _) | (refine Ext.trans ?_ (by assumption)))))) HL.out HB.out (by omega) (by omega)).mono ?_); rintro e w5 ⟨rfl, e5⟩))))
  refine wp_name (fun W => Ext w W) (HX3.out.trans (((Ext.refl _).drew.trans e4).trans e5)) ?_
  rintro w6 e6
  have HX6 := Lib.hid e6
  clear e6
  go_wp2_with fail
  refine (rsign_c (l.x * a.x + l.y * a.y - l.z) _).mono ?_; rintro e _ ⟨rfl, rfl⟩
  go_wp2_with fail
  refine (rsign_c (l.x * b.x + l.y * b.y - l.z) _).mono ?_; rintro e _ ⟨rfl, rfl⟩
  go_wp2
  go_ret3
  exact ⟨rfl, HX6.out⟩

set_option maxRecDepth 100000 in
set_option maxHeartbeats 2000000 in
theorem vCut_ok (l : V3) (a b : P2) (w : World) (g : Gd w) (hl : VB 200 l) (ha : PB 200 a) (hb : PB 200 b) (hz : ¬ (l.x = 0 ∧ l.y = 0)) (h0 : l.x * a.x + l.y * a.y - l.z ≠ l.x * b.x + l.y * b.y - l.z) (h1 : (l.x * a.x + l.y * a.y - l.z).num.sign * (l.x * b.x + l.y * b.y - l.z).num.sign ≤ 0) (hr : QB 200 ((l.x * a.x + l.y * a.y - l.z) / (l.x * a.x + l.y * a.y - l.z - (l.x * b.x + l.y * b.y - l.z)))) : Calls Tryz.prog 45 #[.agg #[.string (qs l.x), .string (qs l.y), .string (qs l.z)], .agg #[.string (qs a.x), .string (qs a.y)], .agg #[.string (qs b.x), .string (qs b.y)]] w (Ret w (.tuple #[.string (qs ((l.x * a.x + l.y * a.y - l.z) / (l.x * a.x + l.y * a.y - l.z - (l.x * b.x + l.y * b.y - l.z)))), .bool true, .int .i64 0])) := by
  have HL := Lib.hid hl
  have HA := Lib.hid ha
  have HB := Lib.hid hb
  have HZ := Lib.hid hz
  have HG := Lib.hid g
  have HR := Lib.hid hr
  clear hl ha hb hz g hr
  have h0_t := qs_neL h0
  have hlo : -1 ≤ (l.x * a.x + l.y * a.y - l.z).num.sign * (l.x * b.x + l.y * b.y - l.z).num.sign := by rcases sign_cases (l.x * a.x + l.y * a.y - l.z).num with h | h | h <;> rcases sign_cases (l.x * b.x + l.y * b.y - l.z).num with h' | h' | h' <;> rw [h, h'] <;> decide
  have hhi : (l.x * a.x + l.y * a.y - l.z).num.sign * (l.x * b.x + l.y * b.y - l.z).num.sign ≤ 1 := by rcases sign_cases (l.x * a.x + l.y * a.y - l.z).num with h | h | h <;> rcases sign_cases (l.x * b.x + l.y * b.y - l.z).num with h' | h' | h' <;> rw [h, h'] <;> decide
  have H0 : Hid (l.x * a.x + l.y * a.y - l.z - (l.x * b.x + l.y * b.y - l.z) ≠ 0) := Lib.hid (by intro e; apply h0; grind)
  clear h0
  go_enter Tryz.func45, Tryz.ntmps45
  go_wp2_with fail
  refine (vLine_ok l _ (HG.out.ext ((((Ext.refl w).alloc _).alloc _).alloc _)) HL.out HZ.out).mono ?_; rintro e w1 ⟨rfl, e1⟩
  have HX1 : Hid (Ext w w1) := Lib.hid (((((Ext.refl w).alloc _).alloc _).alloc _).trans e1)
  have HB0_1 : Hid (Blk w1 (w.heap.size) #[.string (qs l.x), .string (qs l.y), .string (qs l.z)] 73) := Lib.hid (Blk.ext (((Blk.new' (w := _) (cs := #[.string (qs l.x), .string (qs l.y), .string (qs l.z)]) (t := 73) (by first | rfl | (simp only [World.size_alloc]; done) | (simp only [World.size_alloc]; omega) | simp)).alloc _).alloc _) e1)
  have HB1_1 : Hid (Blk w1 (w.heap.size + 1) #[.string (qs a.x), .string (qs a.y)] 62) := Lib.hid (Blk.ext ((Blk.new' (w := _) (cs := #[.string (qs a.x), .string (qs a.y)]) (t := 62) (by first | rfl | (simp only [World.size_alloc]; done) | (simp only [World.size_alloc]; omega) | simp)).alloc _) e1)
  have HB2_1 : Hid (Blk w1 (w.heap.size + 1 + 1) #[.string (qs b.x), .string (qs b.y)] 62) := Lib.hid (Blk.ext (Blk.new' (w := _) (cs := #[.string (qs b.x), .string (qs b.y)]) (t := 62) (by first | rfl | (simp only [World.size_alloc]; done) | (simp only [World.size_alloc]; omega) | simp)) e1)
  have HGEB0 : Hid (w.heap.size ≤ w.heap.size) := Lib.hid (by first | omega | (simp only []; omega) | (simp; omega))
  have HGEB1 : Hid (w.heap.size ≤ w.heap.size + 1) := Lib.hid (by first | omega | (simp only []; omega) | (simp; omega))
  have HGEB2 : Hid (w.heap.size ≤ w.heap.size + 1 + 1) := Lib.hid (by first | omega | (simp only []; omega) | (simp; omega))
  clear e1
  have c1_0 := HB1_1.out.cell 0 rfl
  have c1_1 := HB1_1.out.cell 1 rfl
  have c2_0 := HB2_1.out.cell 0 rfl
  have c2_1 := HB2_1.out.cell 1 rfl
  go_wp2_with fail
  refine (points2_ok a b (w1.heap.size) _ (HG.out.ext (HX1.out.alloc _)) (HA.out.mono (by omega)) (HB.out.mono (by omega)) (Blk.new' (w := _) (cs := #[.string (qs a.x), .string (qs a.y), .string (qs b.x), .string (qs b.y)]) (t := 62) (by first | rfl | (simp only [World.size_alloc]; done) | (simp only [World.size_alloc]; omega) | simp))).mono ?_; rintro e w2 ⟨rfl, e2⟩
  have HX2 : Hid (Ext w w2) := Lib.hid ((HX1.out.alloc _).trans e2)
  have HB0_2 : Hid (Blk w2 (w.heap.size) #[.string (qs l.x), .string (qs l.y), .string (qs l.z)] 73) := Lib.hid (Blk.ext (HB0_1.out.alloc _) e2)
  have HB1_2 : Hid (Blk w2 (w.heap.size + 1) #[.string (qs a.x), .string (qs a.y)] 62) := Lib.hid (Blk.ext (HB1_1.out.alloc _) e2)
  have HB2_2 : Hid (Blk w2 (w.heap.size + 1 + 1) #[.string (qs b.x), .string (qs b.y)] 62) := Lib.hid (Blk.ext (HB2_1.out.alloc _) e2)
  have HB3_2 : Hid (Blk w2 (w1.heap.size) #[.string (qs a.x), .string (qs a.y), .string (qs b.x), .string (qs b.y)] 62) := Lib.hid (Blk.ext (Blk.new' (w := _) (cs := #[.string (qs a.x), .string (qs a.y), .string (qs b.x), .string (qs b.y)]) (t := 62) (by first | rfl | (simp only [World.size_alloc]; done) | (simp only [World.size_alloc]; omega) | simp)) e2)
  have HGEB3 : Hid (w.heap.size ≤ w1.heap.size) := Lib.hid (by have := HX1.out.size; first | omega | (simp only []; omega) | (simp; omega))
  clear e2 c1_0 c1_1 c2_0 c2_1
  go_wp2_with fail
  refine wp_name (fun W => Ext w W ∧ Blk W (w.heap.size) #[.string (qs l.x), .string (qs l.y), .string (qs l.z)] 73 ∧ Blk W (w.heap.size + 1) #[.string (qs a.x), .string (qs a.y)] 62 ∧ Blk W (w.heap.size + 1 + 1) #[.string (qs b.x), .string (qs b.y)] 62) ⟨HX2.out, HB0_2.out, HB1_2.out, HB2_2.out⟩ ?_
  rintro w3 ⟨e3, bB0_3, bB1_3, bB2_3⟩
  have HX3 := Lib.hid e3; have HB0_3 := Lib.hid bB0_3; have HB1_3 := Lib.hid bB1_3; have HB2_3 := Lib.hid bB2_3
  clear e3 bB0_3 bB1_3 bB2_3
  have hS3 : w3.cell? ⟨w.heap.size, 0, none⟩ = some (.string (qs l.x)) ∧ w3.cell? ⟨w.heap.size, 1, none⟩ = some (.string (qs l.y)) ∧ w3.cell? ⟨w.heap.size, 2, none⟩ = some (.string (qs l.z)) ∧ w3.cell? ⟨w.heap.size + 1, 0, none⟩ = some (.string (qs a.x)) ∧ w3.cell? ⟨w.heap.size + 1, 1, none⟩ = some (.string (qs a.y)) ∧ w3.cell? ⟨w.heap.size + 1 + 1, 0, none⟩ = some (.string (qs b.x)) ∧ w3.cell? ⟨w.heap.size + 1 + 1, 1, none⟩ = some (.string (qs b.y)) := ⟨HB0_3.out.cell 0 rfl, HB0_3.out.cell 1 rfl, HB0_3.out.cell 2 rfl, HB1_3.out.cell 0 rfl, HB1_3.out.cell 1 rfl, HB2_3.out.cell 0 rfl, HB2_3.out.cell 1 rfl⟩
  have HS3 := Lib.hid hS3; clear hS3
  go_region_held3 (fun w' => w'.cell? ⟨w.heap.size, 0, none⟩ = some (.string (qs l.x)) ∧ w'.cell? ⟨w.heap.size, 1, none⟩ = some (.string (qs l.y)) ∧ w'.cell? ⟨w.heap.size, 2, none⟩ = some (.string (qs l.z)) ∧ w'.cell? ⟨w.heap.size + 1, 0, none⟩ = some (.string (qs a.x)) ∧ w'.cell? ⟨w.heap.size + 1, 1, none⟩ = some (.string (qs a.y)) ∧ w'.cell? ⟨w.heap.size + 1 + 1, 0, none⟩ = some (.string (qs b.x)) ∧ w'.cell? ⟨w.heap.size + 1 + 1, 1, none⟩ = some (.string (qs b.y)))
    ((exact keepsH7 (by repeat (first | assumption | exact Ext.refl _ | apply Ext.drew | apply Ext.alloc | (refine Ext.setCell ?_ (by first | omega | (simp only []; omega) | (simp; omega)) _) | (refine Ext.trans ?_ (by assumption)))) HS3.out)) ((first
      | (go_at_call 103; ((with_reducible refine (vexcess_c l a _ (HG.out.ext (HX3.out.trans (by repeat (first | assumption | exact Ext.refl _ | apply Ext.drew | apply Ext.alloc | (refine Ext.setCell ?_ (by first | omega | (simp only []; omega) | (simp; omega)) _) | (refine Ext.trans ?_ (by assumption)))))) HL.out HA.out (by omega) (by omega)).mono ?_); rintro e w4 ⟨rfl, e4⟩))
      | (go_at_call 103; ((with_reducible refine (vexcess_c l b _ (HG.out.ext (HX3.out.trans (by repeat (first | assumption | exact Ext.refl _ | apply Ext.drew | apply Ext.alloc | (refine Ext.setCell ?_ (by first | omega | (simp only []; omega) | (simp; omega)) _) | (refine Ext.trans ?_ (by assumption)))))) HL.out HB.out (by omega) (by omega)).mono ?_); rintro e w5 ⟨rfl, e5⟩))))
  refine wp_name (fun W => Ext w W) (HX3.out.trans (((Ext.refl _).drew.trans e4).trans e5)) ?_
  rintro w6 e6
  have HX6 := Lib.hid e6
  clear e6
  go_wp2_with fail
  refine (rsign_c (l.x * a.x + l.y * a.y - l.z) _).mono ?_; rintro e _ ⟨rfl, rfl⟩
  go_wp2_with fail
  refine (rsign_c (l.x * b.x + l.y * b.y - l.z) _).mono ?_; rintro e _ ⟨rfl, rfl⟩
  go_wp2_with fail
  refine (rsub_c (l.x * a.x + l.y * a.y - l.z) (l.x * b.x + l.y * b.y - l.z) _ (HG.out.ext HX6.out) (((HL.out.x.mul HA.out.x).add (HL.out.y.mul HA.out.y)).sub HL.out.z) (((HL.out.x.mul HB.out.x).add (HL.out.y.mul HB.out.y)).sub HL.out.z) (by omega) (by omega)).mono ?_; rintro e w7 ⟨rfl, e7⟩
  have HX7 : Hid (Ext w w7) := Lib.hid (HX6.out.trans e7)
  clear e7
  go_wp2_with fail
  refine (rdiv_c (l.x * a.x + l.y * a.y - l.z) (l.x * a.x + l.y * a.y - l.z - (l.x * b.x + l.y * b.y - l.z)) _ (HG.out.ext HX7.out) (((HL.out.x.mul HA.out.x).add (HL.out.y.mul HA.out.y)).sub HL.out.z) ((((HL.out.x.mul HA.out.x).add (HL.out.y.mul HA.out.y)).sub HL.out.z).sub (((HL.out.x.mul HB.out.x).add (HL.out.y.mul HB.out.y)).sub HL.out.z)) (by omega) (by omega) (by omega) H0.out).mono ?_; rintro e w8 ⟨rfl, e8⟩
  have HX8 : Hid (Ext w w8) := Lib.hid (HX7.out.trans e8)
  clear e8
  go_wp2_with fail
  refine (number_no ((l.x * a.x + l.y * a.y - l.z) / (l.x * a.x + l.y * a.y - l.z - (l.x * b.x + l.y * b.y - l.z))) _ HR.out).mono ?_; rintro e w9 ⟨rfl, e9⟩
  have HX9 : Hid (Ext w w9) := Lib.hid (HX8.out.trans e9)
  clear e9
  go_wp2
  go_ret3
  exact ⟨rfl, HX9.out⟩
end Go.Proofs.YtglppcmegocphaaGreatDoor
