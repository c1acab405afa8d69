/- Part 27 of the proof: V8. -/
import Derived.Test.YtglppcmegocphaaGreatDoorQT1
import Derived.Test.YtglppcmegocphaaGreatDoorQT2
import Derived.Test.YtglppcmegocphaaGreatDoorQT3
import Derived.Test.YtglppcmegocphaaGreatDoorQT4
import Derived.Test.YtglppcmegocphaaGreatDoorQT5
import Derived.Test.YtglppcmegocphaaGreatDoorQT6
import Derived.Test.YtglppcmegocphaaGreatDoorQT7
import Derived.Test.YtglppcmegocphaaGreatDoorQT8
import Derived.Test.YtglppcmegocphaaGreatDoorQT9
import Derived.Test.YtglppcmegocphaaGreatDoorQT10
import Derived.Test.YtglppcmegocphaaGreatDoorQT11
import Derived.Test.YtglppcmegocphaaGreatDoorQT12
import Derived.Test.YtglppcmegocphaaGreatDoorQT13
import Derived.Test.YtglppcmegocphaaGreatDoorQT14
import Derived.Test.YtglppcmegocphaaGreatDoorQT15
import Derived.Test.YtglppcmegocphaaGreatDoorQT16
import Derived.Test.YtglppcmegocphaaGreatDoorQT17
import Derived.Test.YtglppcmegocphaaGreatDoorQT18
import Derived.Test.YtglppcmegocphaaGreatDoorQT19
import Derived.Test.YtglppcmegocphaaGreatDoorQT20
import Derived.Test.YtglppcmegocphaaGreatDoorQT21
import Derived.Test.YtglppcmegocphaaGreatDoorQT22
import Derived.Test.YtglppcmegocphaaGreatDoorQT23
import Derived.Test.YtglppcmegocphaaGreatDoorQT24
import Derived.Test.YtglppcmegocphaaGreatDoorQT25
import Derived.Test.YtglppcmegocphaaGreatDoorQT26
namespace Go.Proofs.YtglppcmegocphaaGreatDoor
open Go Go.RowKit
set_option maxRecDepth 100000 in
set_option maxHeartbeats 16000000 in
theorem vCommon_p (p q : Pl) (w : World) (g : Gd w) (hp : VB 200 p.n) (hpc : QB 200 p.c) (hq : VB 200 q.n) (hqc : QB 200 q.c) (hz : p.n.x = 0 ∧ p.n.y = 0 ∧ p.n.z = 0) : Calls Tryz.prog 25 #[.agg #[.string (qs p.n.x), .string (qs p.n.y), .string (qs p.n.z), .string (qs p.c)], .agg #[.string (qs q.n.x), .string (qs q.n.y), .string (qs q.n.z), .string (qs q.c)]] w (Ret w (.tuple #[.agg #[.string ⟨#[]⟩, .string ⟨#[]⟩, .string ⟨#[]⟩], .agg #[.string ⟨#[]⟩, .string ⟨#[]⟩, .string ⟨#[]⟩], .int .i64 17])) := by
  have HP := Lib.hid hp
  have HPC := Lib.hid hpc
  have HQ := Lib.hid hq
  have HQC := Lib.hid hqc
  have HZ := Lib.hid hz
  have HG := Lib.hid g
  clear hp hpc hq hqc hz g
  have ix0 : ∀ W, (Instr.index 122 (.agg #[.string (qs p.n.x), .string (qs p.n.y), .string (qs p.n.z), .string (qs p.c), .string (qs q.n.x), .string (qs q.n.y), .string (qs q.n.z), .string (qs q.c)]) (.int .i64 0)).run Tryz.prog W = .ok (.agg #[.string (qs p.n.x), .string (qs p.n.y), .string (qs p.n.z), .string (qs p.c)]) W := fun W => by kernel_rfl
  go_enter Tryz.func25, Tryz.ntmps25
  go_wp2_with fail
  refine wp_loop_rounds 3 ?_
  rw [rounds_succ]
  go_wp2_with fail
  refine (vPlane_zero p _ (HG.out.ext ((((((Ext.refl w).alloc _).alloc _).alloc _).alloc _).alloc _)) HP.out HPC.out HZ.out).mono ?_; rintro e w1 ⟨rfl, e1⟩
  have HX1 : Hid (Ext w w1) := Lib.hid (((((((Ext.refl w).alloc _).alloc _).alloc _).alloc _).alloc _).trans e1)
  have HB2_1 : Hid (Blk w1 (w.heap.size + 1 + 1) #[.string ⟨#[]⟩, .string ⟨#[]⟩, .string ⟨#[]⟩] 30) := Lib.hid (Blk.ext (((Blk.new' (w := _) (cs := #[.string ⟨#[]⟩, .string ⟨#[]⟩, .string ⟨#[]⟩]) (t := 30) (by first | rfl | (simp only [World.size_alloc]; done) | (simp only [World.size_alloc]; omega) | simp)).alloc _).alloc _) e1)
  have HB3_1 : Hid (Blk w1 (w.heap.size + 1 + 1 + 1) #[.string ⟨#[]⟩, .string ⟨#[]⟩, .string ⟨#[]⟩] 30) := Lib.hid (Blk.ext ((Blk.new' (w := _) (cs := #[.string ⟨#[]⟩, .string ⟨#[]⟩, .string ⟨#[]⟩]) (t := 30) (by first | rfl | (simp only [World.size_alloc]; done) | (simp only [World.size_alloc]; omega) | simp)).alloc _) e1)
  have HGEB2 : Hid (w.heap.size ≤ w.heap.size + 1 + 1) := Lib.hid (by first | omega | (simp only []; omega) | (simp; omega))
  have HGEB3 : Hid (w.heap.size ≤ w.heap.size + 1 + 1 + 1) := Lib.hid (by first | omega | (simp only []; omega) | (simp; omega))
  clear e1
  have c2_0 := HB2_1.out.cell 0 rfl
  have f2_0 := HB2_1.out.free 0
  have c2_1 := HB2_1.out.cell 1 rfl
  have f2_1 := HB2_1.out.free 1
  have c2_2 := HB2_1.out.cell 2 rfl
  have f2_2 := HB2_1.out.free 2
  have c3_0 := HB3_1.out.cell 0 rfl
  have f3_0 := HB3_1.out.free 0
  have c3_1 := HB3_1.out.cell 1 rfl
  have f3_1 := HB3_1.out.free 1
  have c3_2 := HB3_1.out.cell 2 rfl
  have f3_2 := HB3_1.out.free 2
  go_wp2_with fail
  refine wp_name (fun W => Ext w W ∧ Blk W (w.heap.size + 1 + 1) #[.string ⟨#[]⟩, .string ⟨#[]⟩, .string ⟨#[]⟩] 30 ∧ Blk W (w.heap.size + 1 + 1 + 1) #[.string ⟨#[]⟩, .string ⟨#[]⟩, .string ⟨#[]⟩] 30) ⟨((((((HX1.out.setCell (by have := HGEB2.out; first | omega | (simp only []; omega) | (simp; omega)) _).setCell (by have := HGEB2.out; first | omega | (simp only []; omega) | (simp; omega)) _).setCell (by have := HGEB2.out; first | omega | (simp only []; omega) | (simp; omega)) _).setCell (by have := HGEB3.out; first | omega | (simp only []; omega) | (simp; omega)) _).setCell (by have := HGEB3.out; first | omega | (simp only []; omega) | (simp; omega)) _).setCell (by have := HGEB3.out; first | omega | (simp only []; omega) | (simp; omega)) _), ((((((HB2_1.out.set 0 (.string ⟨#[]⟩)).set 1 (.string ⟨#[]⟩)).set 2 (.string ⟨#[]⟩)).other (a := ⟨w.heap.size + 1 + 1 + 1, 0, none⟩) _ (by first | omega | (simp only []; omega) | (simp; omega))).other (a := ⟨w.heap.size + 1 + 1 + 1, 1, none⟩) _ (by first | omega | (simp only []; omega) | (simp; omega))).other (a := ⟨w.heap.size + 1 + 1 + 1, 2, none⟩) _ (by first | omega | (simp only []; omega) | (simp; omega))), ((((((HB3_1.out.other (a := ⟨w.heap.size + 1 + 1, 0, none⟩) _ (by first | omega | (simp only []; omega) | (simp; omega))).other (a := ⟨w.heap.size + 1 + 1, 1, none⟩) _ (by first | omega | (simp only []; omega) | (simp; omega))).other (a := ⟨w.heap.size + 1 + 1, 2, none⟩) _ (by first | omega | (simp only []; omega) | (simp; omega))).set 0 (.string ⟨#[]⟩)).set 1 (.string ⟨#[]⟩)).set 2 (.string ⟨#[]⟩))⟩ ?_
  rintro w2 ⟨e2, bB2_2, bB3_2⟩
  have HX2 := Lib.hid e2; have HB2_2 := Lib.hid bB2_2; have HB3_2 := Lib.hid bB3_2
  clear e2 bB2_2 bB3_2 c2_0 f2_0 c2_1 f2_1 c2_2 f2_2 c3_0 f3_0 c3_1 f3_1 c3_2 f3_2
  have gB2_0 := HB2_2.out.cell 0 rfl
  have gB2_1 := HB2_2.out.cell 1 rfl
  have gB2_2 := HB2_2.out.cell 2 rfl
  have gB3_0 := HB3_2.out.cell 0 rfl
  have gB3_1 := HB3_2.out.cell 1 rfl
  have gB3_2 := HB3_2.out.cell 2 rfl
  refine bodyPost_ret (v := .tuple #[.agg #[.string ⟨#[]⟩, .string ⟨#[]⟩, .string ⟨#[]⟩], .agg #[.string ⟨#[]⟩, .string ⟨#[]⟩, .string ⟨#[]⟩], .int .i64 17]) (by simp [results, Tryz.results25, go_sem, gB2_0, gB2_1, gB2_2, gB3_0, gB3_1, gB3_2]) rfl ⟨rfl, HX2.out⟩

set_option maxRecDepth 100000 in
set_option maxHeartbeats 16000000 in
theorem vCommon_q (p q : Pl) (w : World) (g : Gd w) (hp : VB 200 p.n) (hpc : QB 200 p.c) (hq : VB 200 q.n) (hqc : QB 200 q.c) (hz : ¬ (p.n.x = 0 ∧ p.n.y = 0 ∧ p.n.z = 0)) (hy : q.n.x = 0 ∧ q.n.y = 0 ∧ q.n.z = 0) : Calls Tryz.prog 25 #[.agg #[.string (qs p.n.x), .string (qs p.n.y), .string (qs p.n.z), .string (qs p.c)], .agg #[.string (qs q.n.x), .string (qs q.n.y), .string (qs q.n.z), .string (qs q.c)]] w (Ret w (.tuple #[.agg #[.string ⟨#[]⟩, .string ⟨#[]⟩, .string ⟨#[]⟩], .agg #[.string ⟨#[]⟩, .string ⟨#[]⟩, .string ⟨#[]⟩], .int .i64 17])) := by
  have HP := Lib.hid hp
  have HPC := Lib.hid hpc
  have HQ := Lib.hid hq
  have HQC := Lib.hid hqc
  have HZ := Lib.hid hz
  have HY := Lib.hid hy
  have HG := Lib.hid g
  clear hp hpc hq hqc hz hy g
  have ix0 : ∀ W, (Instr.index 122 (.agg #[.string (qs p.n.x), .string (qs p.n.y), .string (qs p.n.z), .string (qs p.c), .string (qs q.n.x), .string (qs q.n.y), .string (qs q.n.z), .string (qs q.c)]) (.int .i64 0)).run Tryz.prog W = .ok (.agg #[.string (qs p.n.x), .string (qs p.n.y), .string (qs p.n.z), .string (qs p.c)]) W := fun W => by kernel_rfl
  have ix1 : ∀ W, (Instr.index 122 (.agg #[.string (qs p.n.x), .string (qs p.n.y), .string (qs p.n.z), .string (qs p.c), .string (qs q.n.x), .string (qs q.n.y), .string (qs q.n.z), .string (qs q.c)]) (.int .i64 1)).run Tryz.prog W = .ok (.agg #[.string (qs q.n.x), .string (qs q.n.y), .string (qs q.n.z), .string (qs q.c)]) W := fun W => by kernel_rfl
  go_enter Tryz.func25, Tryz.ntmps25
  go_wp2_with fail
  refine wp_loop_rounds 3 ?_
  rw [rounds_succ]
  go_wp2_with fail
  refine (vPlane_ok p _ (HG.out.ext ((((((Ext.refl w).alloc _).alloc _).alloc _).alloc _).alloc _)) HP.out HPC.out HZ.out).mono ?_; rintro e w1 ⟨rfl, e1⟩
  have HX1 : Hid (Ext w w1) := Lib.hid (((((((Ext.refl w).alloc _).alloc _).alloc _).alloc _).alloc _).trans e1)
  have HB2_1 : Hid (Blk w1 (w.heap.size + 1 + 1) #[.string ⟨#[]⟩, .string ⟨#[]⟩, .string ⟨#[]⟩] 30) := Lib.hid (Blk.ext (((Blk.new' (w := _) (cs := #[.string ⟨#[]⟩, .string ⟨#[]⟩, .string ⟨#[]⟩]) (t := 30) (by first | rfl | (simp only [World.size_alloc]; done) | (simp only [World.size_alloc]; omega) | simp)).alloc _).alloc _) e1)
  have HB3_1 : Hid (Blk w1 (w.heap.size + 1 + 1 + 1) #[.string ⟨#[]⟩, .string ⟨#[]⟩, .string ⟨#[]⟩] 30) := Lib.hid (Blk.ext ((Blk.new' (w := _) (cs := #[.string ⟨#[]⟩, .string ⟨#[]⟩, .string ⟨#[]⟩]) (t := 30) (by first | rfl | (simp only [World.size_alloc]; done) | (simp only [World.size_alloc]; omega) | simp)).alloc _) e1)
  have HGEB2 : Hid (w.heap.size ≤ w.heap.size + 1 + 1) := Lib.hid (by first | omega | (simp only []; omega) | (simp; omega))
  have HGEB3 : Hid (w.heap.size ≤ w.heap.size + 1 + 1 + 1) := Lib.hid (by first | omega | (simp only []; omega) | (simp; omega))
  clear e1
  go_wp2_with fail
  rw [rounds_succ]
  go_upto_region 4 with fail
  refine wp_name (fun W => Ext w W ∧ Blk W (w.heap.size + 1 + 1) #[.string ⟨#[]⟩, .string ⟨#[]⟩, .string ⟨#[]⟩] 30 ∧ Blk W (w.heap.size + 1 + 1 + 1) #[.string ⟨#[]⟩, .string ⟨#[]⟩, .string ⟨#[]⟩] 30 ∧ Blk W (w1.heap.size) #[.string (qs q.n.x), .string (qs q.n.y), .string (qs q.n.z), .string (qs q.c)] 48) ⟨(HX1.out.alloc _), (HB2_1.out.alloc _), (HB3_1.out.alloc _), (Blk.new' (w := _) (cs := #[.string (qs q.n.x), .string (qs q.n.y), .string (qs q.n.z), .string (qs q.c)]) (t := 48) (by first | rfl | (simp only [World.size_alloc]; done) | (simp only [World.size_alloc]; omega) | simp))⟩ ?_
  rintro w2 ⟨e2, bB2_2, bB3_2, bB5_2⟩
  have HX2 := Lib.hid e2; have HB2_2 := Lib.hid bB2_2; have HB3_2 := Lib.hid bB3_2; have HB5_2 := Lib.hid bB5_2
  have HGEB5 : Hid (w.heap.size ≤ w1.heap.size) := Lib.hid (by have := HX1.out.size; first | omega | (simp only []; omega) | (simp; omega))
  clear e2 bB2_2 bB3_2 bB5_2
  have c5_0 := HB5_2.out.cell 0 rfl
  have c5_1 := HB5_2.out.cell 1 rfl
  have c5_2 := HB5_2.out.cell 2 rfl
  have c5_3 := HB5_2.out.cell 3 rfl
  go_wp2_with fail
  refine (vPlane_zero q _ (HG.out.ext HX2.out) HQ.out HQC.out HY.out).mono ?_; rintro e w3 ⟨rfl, e3⟩
  have HX3 : Hid (Ext w w3) := Lib.hid (HX2.out.trans e3)
  have HB2_3 := Lib.hid (Blk.ext HB2_2.out e3)
  have HB3_3 := Lib.hid (Blk.ext HB3_2.out e3)
  clear e3 c5_0 c5_1 c5_2 c5_3
  have c2_0 := HB2_3.out.cell 0 rfl
  have f2_0 := HB2_3.out.free 0
  have c2_1 := HB2_3.out.cell 1 rfl
  have f2_1 := HB2_3.out.free 1
  have c2_2 := HB2_3.out.cell 2 rfl
  have f2_2 := HB2_3.out.free 2
  have c3_0 := HB3_3.out.cell 0 rfl
  have f3_0 := HB3_3.out.free 0
  have c3_1 := HB3_3.out.cell 1 rfl
  have f3_1 := HB3_3.out.free 1
  have c3_2 := HB3_3.out.cell 2 rfl
  have f3_2 := HB3_3.out.free 2
  go_wp2_with fail
  refine wp_name (fun W => Ext w W ∧ Blk W (w.heap.size + 1 + 1) #[.string ⟨#[]⟩, .string ⟨#[]⟩, .string ⟨#[]⟩] 30 ∧ Blk W (w.heap.size + 1 + 1 + 1) #[.string ⟨#[]⟩, .string ⟨#[]⟩, .string ⟨#[]⟩] 30) ⟨((((((HX3.out.setCell (by have := HGEB2.out; first | omega | (simp only []; omega) | (simp; omega)) _).setCell (by have := HGEB2.out; first | omega | (simp only []; omega) | (simp; omega)) _).setCell (by have := HGEB2.out; first | omega | (simp only []; omega) | (simp; omega)) _).setCell (by have := HGEB3.out; first | omega | (simp only []; omega) | (simp; omega)) _).setCell (by have := HGEB3.out; first | omega | (simp only []; omega) | (simp; omega)) _).setCell (by have := HGEB3.out; first | omega | (simp only []; omega) | (simp; omega)) _), ((((((HB2_3.out.set 0 (.string ⟨#[]⟩)).set 1 (.string ⟨#[]⟩)).set 2 (.string ⟨#[]⟩)).other (a := ⟨w.heap.size + 1 + 1 + 1, 0, none⟩) _ (by first | omega | (simp only []; omega) | (simp; omega))).other (a := ⟨w.heap.size + 1 + 1 + 1, 1, none⟩) _ (by first | omega | (simp only []; omega) | (simp; omega))).other (a := ⟨w.heap.size + 1 + 1 + 1, 2, none⟩) _ (by first | omega | (simp only []; omega) | (simp; omega))), ((((((HB3_3.out.other (a := ⟨w.heap.size + 1 + 1, 0, none⟩) _ (by first | omega | (simp only []; omega) | (simp; omega))).other (a := ⟨w.heap.size + 1 + 1, 1, none⟩) _ (by first | omega | (simp only []; omega) | (simp; omega))).other (a := ⟨w.heap.size + 1 + 1, 2, none⟩) _ (by first | omega | (simp only []; omega) | (simp; omega))).set 0 (.string ⟨#[]⟩)).set 1 (.string ⟨#[]⟩)).set 2 (.string ⟨#[]⟩))⟩ ?_
  rintro w4 ⟨e4, bB2_4, bB3_4⟩
  have HX4 := Lib.hid e4; have HB2_4 := Lib.hid bB2_4; have HB3_4 := Lib.hid bB3_4
  clear e4 bB2_4 bB3_4 c2_0 f2_0 c2_1 f2_1 c2_2 f2_2 c3_0 f3_0 c3_1 f3_1 c3_2 f3_2
  have gB2_0 := HB2_4.out.cell 0 rfl
  have gB2_1 := HB2_4.out.cell 1 rfl
  have gB2_2 := HB2_4.out.cell 2 rfl
  have gB3_0 := HB3_4.out.cell 0 rfl
  have gB3_1 := HB3_4.out.cell 1 rfl
  have gB3_2 := HB3_4.out.cell 2 rfl
  refine bodyPost_ret (v := .tuple #[.agg #[.string ⟨#[]⟩, .string ⟨#[]⟩, .string ⟨#[]⟩], .agg #[.string ⟨#[]⟩, .string ⟨#[]⟩, .string ⟨#[]⟩], .int .i64 17]) (by simp [results, Tryz.results25, go_sem, gB2_0, gB2_1, gB2_2, gB3_0, gB3_1, gB3_2]) rfl ⟨rfl, HX4.out⟩

set_option maxRecDepth 100000 in
set_option maxHeartbeats 16000000 in
theorem vCommon_par (p q : Pl) (w : World) (g : Gd w) (hp : VB 200 p.n) (hpc : QB 200 p.c) (hq : VB 200 q.n) (hqc : QB 200 q.c) (hz : ¬ (p.n.x = 0 ∧ p.n.y = 0 ∧ p.n.z = 0)) (hy : ¬ (q.n.x = 0 ∧ q.n.y = 0 ∧ q.n.z = 0)) (h0 : p.n.y * q.n.z - p.n.z * q.n.y = 0) (h1 : p.n.z * q.n.x - p.n.x * q.n.z = 0) (h2 : p.n.x * q.n.y - p.n.y * q.n.x = 0) : Calls Tryz.prog 25 #[.agg #[.string (qs p.n.x), .string (qs p.n.y), .string (qs p.n.z), .string (qs p.c)], .agg #[.string (qs q.n.x), .string (qs q.n.y), .string (qs q.n.z), .string (qs q.c)]] w (Ret w (.tuple #[.agg #[.string ⟨#[]⟩, .string ⟨#[]⟩, .string ⟨#[]⟩], .agg #[.string ⟨#[]⟩, .string ⟨#[]⟩, .string ⟨#[]⟩], .int .i64 19])) := by
  have HP := Lib.hid hp
  have HPC := Lib.hid hpc
  have HQ := Lib.hid hq
  have HQC := Lib.hid hqc
  have HZ := Lib.hid hz
  have HY := Lib.hid hy
  have HG := Lib.hid g
  clear hp hpc hq hqc hz hy g
  have h0_t := qs_is0 h0
  have h1_t := qs_is0 h1
  have h2_t := qs_is0 h2
  clear h0 h1 h2
  have ix0 : ∀ W, (Instr.index 122 (.agg #[.string (qs p.n.x), .string (qs p.n.y), .string (qs p.n.z), .string (qs p.c), .string (qs q.n.x), .string (qs q.n.y), .string (qs q.n.z), .string (qs q.c)]) (.int .i64 0)).run Tryz.prog W = .ok (.agg #[.string (qs p.n.x), .string (qs p.n.y), .string (qs p.n.z), .string (qs p.c)]) W := fun W => by kernel_rfl
  have ix1 : ∀ W, (Instr.index 122 (.agg #[.string (qs p.n.x), .string (qs p.n.y), .string (qs p.n.z), .string (qs p.c), .string (qs q.n.x), .string (qs q.n.y), .string (qs q.n.z), .string (qs q.c)]) (.int .i64 1)).run Tryz.prog W = .ok (.agg #[.string (qs q.n.x), .string (qs q.n.y), .string (qs q.n.z), .string (qs q.c)]) W := fun W => by kernel_rfl
  go_enter Tryz.func25, Tryz.ntmps25
  go_wp2_with fail
  refine wp_loop_rounds 3 ?_
  rw [rounds_succ]
  go_wp2_with fail
  refine (vPlane_ok p _ (HG.out.ext ((((((Ext.refl w).alloc _).alloc _).alloc _).alloc _).alloc _)) HP.out HPC.out HZ.out).mono ?_; rintro e w1 ⟨rfl, e1⟩
  have HX1 : Hid (Ext w w1) := Lib.hid (((((((Ext.refl w).alloc _).alloc _).alloc _).alloc _).alloc _).trans e1)
  have HB0_1 : Hid (Blk w1 (w.heap.size) #[.string (qs p.n.x), .string (qs p.n.y), .string (qs p.n.z), .string (qs p.c)] 48) := Lib.hid (Blk.ext (((((Blk.new' (w := _) (cs := #[.string (qs p.n.x), .string (qs p.n.y), .string (qs p.n.z), .string (qs p.c)]) (t := 48) (by first | rfl | (simp only [World.size_alloc]; done) | (simp only [World.size_alloc]; omega) | simp)).alloc _).alloc _).alloc _).alloc _) e1)
  have HB1_1 : Hid (Blk w1 (w.heap.size + 1) #[.string (qs q.n.x), .string (qs q.n.y), .string (qs q.n.z), .string (qs q.c)] 48) := Lib.hid (Blk.ext ((((Blk.new' (w := _) (cs := #[.string (qs q.n.x), .string (qs q.n.y), .string (qs q.n.z), .string (qs q.c)]) (t := 48) (by first | rfl | (simp only [World.size_alloc]; done) | (simp only [World.size_alloc]; omega) | simp)).alloc _).alloc _).alloc _) e1)
  have HB2_1 : Hid (Blk w1 (w.heap.size + 1 + 1) #[.string ⟨#[]⟩, .string ⟨#[]⟩, .string ⟨#[]⟩] 30) := Lib.hid (Blk.ext (((Blk.new' (w := _) (cs := #[.string ⟨#[]⟩, .string ⟨#[]⟩, .string ⟨#[]⟩]) (t := 30) (by first | rfl | (simp only [World.size_alloc]; done) | (simp only [World.size_alloc]; omega) | simp)).alloc _).alloc _) e1)
  have HB3_1 : Hid (Blk w1 (w.heap.size + 1 + 1 + 1) #[.string ⟨#[]⟩, .string ⟨#[]⟩, .string ⟨#[]⟩] 30) := Lib.hid (Blk.ext ((Blk.new' (w := _) (cs := #[.string ⟨#[]⟩, .string ⟨#[]⟩, .string ⟨#[]⟩]) (t := 30) (by first | rfl | (simp only [World.size_alloc]; done) | (simp only [World.size_alloc]; omega) | simp)).alloc _) e1)
  have HGEB0 : Hid (w.heap.size ≤ w.heap.size) := Lib.hid (by first | omega | (simp only []; omega) | (simp; omega))
  have HGEB1 : Hid (w.heap.size ≤ w.heap.size + 1) := Lib.hid (by first | omega | (simp only []; omega) | (simp; omega))
  have HGEB2 : Hid (w.heap.size ≤ w.heap.size + 1 + 1) := Lib.hid (by first | omega | (simp only []; omega) | (simp; omega))
  have HGEB3 : Hid (w.heap.size ≤ w.heap.size + 1 + 1 + 1) := Lib.hid (by first | omega | (simp only []; omega) | (simp; omega))
  clear e1
  go_wp2_with fail
  rw [rounds_succ]
  go_upto_region 4 with fail
  refine wp_name (fun W => Ext w W ∧ Blk W (w.heap.size) #[.string (qs p.n.x), .string (qs p.n.y), .string (qs p.n.z), .string (qs p.c)] 48 ∧ Blk W (w.heap.size + 1) #[.string (qs q.n.x), .string (qs q.n.y), .string (qs q.n.z), .string (qs q.c)] 48 ∧ Blk W (w.heap.size + 1 + 1) #[.string ⟨#[]⟩, .string ⟨#[]⟩, .string ⟨#[]⟩] 30 ∧ Blk W (w.heap.size + 1 + 1 + 1) #[.string ⟨#[]⟩, .string ⟨#[]⟩, .string ⟨#[]⟩] 30 ∧ Blk W (w1.heap.size) #[.string (qs q.n.x), .string (qs q.n.y), .string (qs q.n.z), .string (qs q.c)] 48) ⟨(HX1.out.alloc _), (HB0_1.out.alloc _), (HB1_1.out.alloc _), (HB2_1.out.alloc _), (HB3_1.out.alloc _), (Blk.new' (w := _) (cs := #[.string (qs q.n.x), .string (qs q.n.y), .string (qs q.n.z), .string (qs q.c)]) (t := 48) (by first | rfl | (simp only [World.size_alloc]; done) | (simp only [World.size_alloc]; omega) | simp))⟩ ?_
  rintro w2 ⟨e2, bB0_2, bB1_2, bB2_2, bB3_2, bB5_2⟩
  have HX2 := Lib.hid e2; have HB0_2 := Lib.hid bB0_2; have HB1_2 := Lib.hid bB1_2; have HB2_2 := Lib.hid bB2_2; have HB3_2 := Lib.hid bB3_2; have HB5_2 := Lib.hid bB5_2
  have HGEB5 : Hid (w.heap.size ≤ w1.heap.size) := Lib.hid (by have := HX1.out.size; first | omega | (simp only []; omega) | (simp; omega))
  clear e2 bB0_2 bB1_2 bB2_2 bB3_2 bB5_2
  have c5_0 := HB5_2.out.cell 0 rfl
  have c5_1 := HB5_2.out.cell 1 rfl
  have c5_2 := HB5_2.out.cell 2 rfl
  have c5_3 := HB5_2.out.cell 3 rfl
  go_wp2_with fail
  refine (vPlane_ok q _ (HG.out.ext HX2.out) HQ.out HQC.out HY.out).mono ?_; rintro e w3 ⟨rfl, e3⟩
  have HX3 : Hid (Ext w w3) := Lib.hid (HX2.out.trans e3)
  have HB0_3 := Lib.hid (Blk.ext HB0_2.out e3)
  have HB1_3 := Lib.hid (Blk.ext HB1_2.out e3)
  have HB2_3 := Lib.hid (Blk.ext HB2_2.out e3)
  have HB3_3 := Lib.hid (Blk.ext HB3_2.out e3)
  clear e3 c5_0 c5_1 c5_2 c5_3
  go_wp2_with fail
  rw [rounds_succ]
  have c0_0 := HB0_3.out.cell 0 rfl
  have c0_1 := HB0_3.out.cell 1 rfl
  have c0_2 := HB0_3.out.cell 2 rfl
  have c1_0 := HB1_3.out.cell 0 rfl
  have c1_1 := HB1_3.out.cell 1 rfl
  have c1_2 := HB1_3.out.cell 2 rfl
  go_wp2_with fail
  refine (vcross0_c p.n q.n _ (HG.out.ext HX3.out) HP.out HQ.out (by omega) (by omega)).mono ?_; rintro e w4 ⟨rfl, e4⟩
  have HX4 : Hid (Ext w w4) := Lib.hid (HX3.out.trans e4)
  have HB2_4 := Lib.hid (Blk.ext HB2_3.out e4)
  have HB3_4 := Lib.hid (Blk.ext HB3_3.out e4)
  clear e4 c0_0 c0_1 c0_2 c1_0 c1_1 c1_2
  go_wp2_with fail
  refine ((list_e ⟨qs (p.n.y * q.n.z - p.n.z * q.n.y), qs (p.n.z * q.n.x - p.n.x * q.n.z), qs (p.n.x * q.n.y - p.n.y * q.n.x)⟩ _).mono (fun _ _ h => (⟨h.1, h.2 ▸ ((Ext.refl _).alloc _).alloc _⟩ : Ret _ _ _ _))).mono ?_; rintro e w5 ⟨rfl, e5⟩
  have HX5 : Hid (Ext w w5) := Lib.hid (HX4.out.trans e5)
  have HB2_5 := Lib.hid (Blk.ext HB2_4.out e5)
  have HB3_5 := Lib.hid (Blk.ext HB3_4.out e5)
  clear e5
  go_wp2_with fail
  refine wp_loop_rounds 5 ?_
  rw [rounds_succ]
  go_upto_region 10 with fail
  refine wp_name (fun W => Ext w W ∧ Blk W (w.heap.size + 1 + 1) #[.string ⟨#[]⟩, .string ⟨#[]⟩, .string ⟨#[]⟩] 30 ∧ Blk W (w.heap.size + 1 + 1 + 1) #[.string ⟨#[]⟩, .string ⟨#[]⟩, .string ⟨#[]⟩] 30 ∧ Blk W (w5.heap.size) #[.string (qs (p.n.y * q.n.z - p.n.z * q.n.y)), .string (qs (p.n.z * q.n.x - p.n.x * q.n.z)), .string (qs (p.n.x * q.n.y - p.n.y * q.n.x))] 108) ⟨(HX5.out.alloc _), (HB2_5.out.alloc _), (HB3_5.out.alloc _), (Blk.new' (w := _) (cs := #[.string (qs (p.n.y * q.n.z - p.n.z * q.n.y)), .string (qs (p.n.z * q.n.x - p.n.x * q.n.z)), .string (qs (p.n.x * q.n.y - p.n.y * q.n.x))]) (t := 108) (by first | rfl | (simp only [World.size_alloc]; done) | (simp only [World.size_alloc]; omega) | simp))⟩ ?_
  rintro w6 ⟨e6, bB2_6, bB3_6, bB6_6⟩
  have HX6 := Lib.hid e6; have HB2_6 := Lib.hid bB2_6; have HB3_6 := Lib.hid bB3_6; have HB6_6 := Lib.hid bB6_6
  have HGEB6 : Hid (w.heap.size ≤ w5.heap.size) := Lib.hid (by have := HX5.out.size; first | omega | (simp only []; omega) | (simp; omega))
  clear e6 bB2_6 bB3_6 bB6_6
  have c6_0 := HB6_6.out.cell 0 rfl
  go_wp2_with fail
  rw [rounds_succ]
  clear c6_0
  have c6_1 := HB6_6.out.cell 1 rfl
  go_wp2_with fail
  rw [rounds_succ]
  clear c6_1
  have c6_2 := HB6_6.out.cell 2 rfl
  go_wp2_with fail
  rw [rounds_succ]
  clear c6_2
  have c2_0 := HB2_6.out.cell 0 rfl
  have f2_0 := HB2_6.out.free 0
  have c2_1 := HB2_6.out.cell 1 rfl
  have f2_1 := HB2_6.out.free 1
  have c2_2 := HB2_6.out.cell 2 rfl
  have f2_2 := HB2_6.out.free 2
  have c3_0 := HB3_6.out.cell 0 rfl
  have f3_0 := HB3_6.out.free 0
  have c3_1 := HB3_6.out.cell 1 rfl
  have f3_1 := HB3_6.out.free 1
  have c3_2 := HB3_6.out.cell 2 rfl
  have f3_2 := HB3_6.out.free 2
  go_wp2_with fail
  refine wp_name (fun W => Ext w W ∧ Blk W (w.heap.size + 1 + 1) #[.string ⟨#[]⟩, .string ⟨#[]⟩, .string ⟨#[]⟩] 30 ∧ Blk W (w.heap.size + 1 + 1 + 1) #[.string ⟨#[]⟩, .string ⟨#[]⟩, .string ⟨#[]⟩] 30) ⟨((((((HX6.out.setCell (by have := HGEB2.out; first | omega | (simp only []; omega) | (simp; omega)) _).setCell (by have := HGEB2.out; first | omega | (simp only []; omega) | (simp; omega)) _).setCell (by have := HGEB2.out; first | omega | (simp only []; omega) | (simp; omega)) _).setCell (by have := HGEB3.out; first | omega | (simp only []; omega) | (simp; omega)) _).setCell (by have := HGEB3.out; first | omega | (simp only []; omega) | (simp; omega)) _).setCell (by have := HGEB3.out; first | omega | (simp only []; omega) | (simp; omega)) _), ((((((HB2_6.out.set 0 (.string ⟨#[]⟩)).set 1 (.string ⟨#[]⟩)).set 2 (.string ⟨#[]⟩)).other (a := ⟨w.heap.size + 1 + 1 + 1, 0, none⟩) _ (by first | omega | (simp only []; omega) | (simp; omega))).other (a := ⟨w.heap.size + 1 + 1 + 1, 1, none⟩) _ (by first | omega | (simp only []; omega) | (simp; omega))).other (a := ⟨w.heap.size + 1 + 1 + 1, 2, none⟩) _ (by first | omega | (simp only []; omega) | (simp; omega))), ((((((HB3_6.out.other (a := ⟨w.heap.size + 1 + 1, 0, none⟩) _ (by first | omega | (simp only []; omega) | (simp; omega))).other (a := ⟨w.heap.size + 1 + 1, 1, none⟩) _ (by first | omega | (simp only []; omega) | (simp; omega))).other (a := ⟨w.heap.size + 1 + 1, 2, none⟩) _ (by first | omega | (simp only []; omega) | (simp; omega))).set 0 (.string ⟨#[]⟩)).set 1 (.string ⟨#[]⟩)).set 2 (.string ⟨#[]⟩))⟩ ?_
  rintro w7 ⟨e7, bB2_7, bB3_7⟩
  have HX7 := Lib.hid e7; have HB2_7 := Lib.hid bB2_7; have HB3_7 := Lib.hid bB3_7
  clear e7 bB2_7 bB3_7 c2_0 f2_0 c2_1 f2_1 c2_2 f2_2 c3_0 f3_0 c3_1 f3_1 c3_2 f3_2
  have gB2_0 := HB2_7.out.cell 0 rfl
  have gB2_1 := HB2_7.out.cell 1 rfl
  have gB2_2 := HB2_7.out.cell 2 rfl
  have gB3_0 := HB3_7.out.cell 0 rfl
  have gB3_1 := HB3_7.out.cell 1 rfl
  have gB3_2 := HB3_7.out.cell 2 rfl
  refine bodyPost_ret (v := .tuple #[.agg #[.string ⟨#[]⟩, .string ⟨#[]⟩, .string ⟨#[]⟩], .agg #[.string ⟨#[]⟩, .string ⟨#[]⟩, .string ⟨#[]⟩], .int .i64 19]) (by simp [results, Tryz.results25, go_sem, gB2_0, gB2_1, gB2_2, gB3_0, gB3_1, gB3_2]) rfl ⟨rfl, HX7.out⟩

set_option maxRecDepth 100000 in
set_option maxHeartbeats 4000000 in
theorem scp_z (p : Pl) (w : World) (g : Gd w) (hp : VB 200 p.n) (hpc : QB 200 p.c) (hz : p.n.x = 0 ∧ p.n.y = 0 ∧ p.n.z = 0) : Calls Tryz.prog 27 #[.agg #[.string (qs p.n.x), .string (qs p.n.y), .string (qs p.n.z), .string (qs p.c)]] w (Ret w (.int .i64 17)) := by
  have HP := Lib.hid hp
  have HPC := Lib.hid hpc
  have HZ := Lib.hid hz
  have HG := Lib.hid g
  clear hp hpc hz g
  go_enter Tryz.func27, Tryz.ntmps27
  go_wp2_with fail
  refine (sright_v p.n _ (HG.out.ext ((Ext.refl w).alloc _)) HP.out).mono ?_; rintro e w1 ⟨rfl, e1⟩
  have HX1 : Hid (Ext w w1) := Lib.hid (((Ext.refl w).alloc _).trans e1)
  have HB0_1 : Hid (Blk w1 (w.heap.size) #[.string (qs p.n.x), .string (qs p.n.y), .string (qs p.n.z), .string (qs p.c)] 48) := Lib.hid (Blk.ext (Blk.new' (w := _) (cs := #[.string (qs p.n.x), .string (qs p.n.y), .string (qs p.n.z), .string (qs p.c)]) (t := 48) (by first | rfl | (simp only [World.size_alloc]; done) | (simp only [World.size_alloc]; omega) | simp)) e1)
  have HGEB0 : Hid (w.heap.size ≤ w.heap.size) := Lib.hid (by first | omega | (simp only []; omega) | (simp; omega))
  clear e1
  have c0_3 := HB0_1.out.cell 3 rfl
  go_wp2_with fail
  refine (fright_yes (qs p.c) _ (HG.out.ext HX1.out) (HPC.out.len (by decide)) (rq_qs HPC.out)).mono ?_; rintro e w2 ⟨rfl, e2⟩
  have HX2 : Hid (Ext w w2) := Lib.hid (HX1.out.trans e2)
  have HB0_2 := Lib.hid (Blk.ext HB0_1.out e2)
  clear e2 c0_3
  have c0_0 := HB0_2.out.cell 0 rfl
  have c0_1 := HB0_2.out.cell 1 rfl
  have c0_2 := HB0_2.out.cell 2 rfl
  go_wp2_with fail
  refine (szero_t p.n _ HZ.out).mono ?_; rintro e w3 ⟨rfl, e3⟩
  have HX3 : Hid (Ext w w3) := Lib.hid (HX2.out.trans e3)
  clear e3 c0_0 c0_1 c0_2
  go_wp2
  go_ret
  exact ⟨rfl, HX3.out⟩

set_option maxRecDepth 100000 in
set_option maxHeartbeats 4000000 in
theorem scp_n (p : Pl) (w : World) (g : Gd w) (hp : VB 200 p.n) (hpc : QB 200 p.c) (hz : ¬ (p.n.x = 0 ∧ p.n.y = 0 ∧ p.n.z = 0)) : Calls Tryz.prog 27 #[.agg #[.string (qs p.n.x), .string (qs p.n.y), .string (qs p.n.z), .string (qs p.c)]] w (Ret w (.int .i64 0)) := by
  have HP := Lib.hid hp
  have HPC := Lib.hid hpc
  have HZ := Lib.hid hz
  have HG := Lib.hid g
  clear hp hpc hz g
  go_enter Tryz.func27, Tryz.ntmps27
  go_wp2_with fail
  refine (sright_v p.n _ (HG.out.ext ((Ext.refl w).alloc _)) HP.out).mono ?_; rintro e w1 ⟨rfl, e1⟩
  have HX1 : Hid (Ext w w1) := Lib.hid (((Ext.refl w).alloc _).trans e1)
  have HB0_1 : Hid (Blk w1 (w.heap.size) #[.string (qs p.n.x), .string (qs p.n.y), .string (qs p.n.z), .string (qs p.c)] 48) := Lib.hid (Blk.ext (Blk.new' (w := _) (cs := #[.string (qs p.n.x), .string (qs p.n.y), .string (qs p.n.z), .string (qs p.c)]) (t := 48) (by first | rfl | (simp only [World.size_alloc]; done) | (simp only [World.size_alloc]; omega) | simp)) e1)
  have HGEB0 : Hid (w.heap.size ≤ w.heap.size) := Lib.hid (by first | omega | (simp only []; omega) | (simp; omega))
  clear e1
  have c0_3 := HB0_1.out.cell 3 rfl
  go_wp2_with fail
  refine (fright_yes (qs p.c) _ (HG.out.ext HX1.out) (HPC.out.len (by decide)) (rq_qs HPC.out)).mono ?_; rintro e w2 ⟨rfl, e2⟩
  have HX2 : Hid (Ext w w2) := Lib.hid (HX1.out.trans e2)
  have HB0_2 := Lib.hid (Blk.ext HB0_1.out e2)
  clear e2 c0_3
  have c0_0 := HB0_2.out.cell 0 rfl
  have c0_1 := HB0_2.out.cell 1 rfl
  have c0_2 := HB0_2.out.cell 2 rfl
  go_wp2_with fail
  refine (szero_f p.n _ HZ.out).mono ?_; rintro e w3 ⟨rfl, e3⟩
  have HX3 : Hid (Ext w w3) := Lib.hid (HX2.out.trans e3)
  clear e3 c0_0 c0_1 c0_2
  go_wp2
  go_ret
  exact ⟨rfl, HX3.out⟩
end Go.Proofs.YtglppcmegocphaaGreatDoor
