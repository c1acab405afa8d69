/- Part 37 of the proof: M7. -/
import Derived.Test.YtjeimihnoiephaaGreatDoorQB1
import Derived.Test.YtjeimihnoiephaaGreatDoorQB2
import Derived.Test.YtjeimihnoiephaaGreatDoorQB3
import Derived.Test.YtjeimihnoiephaaGreatDoorQB4
import Derived.Test.YtjeimihnoiephaaGreatDoorQB5
import Derived.Test.YtjeimihnoiephaaGreatDoorQB6
import Derived.Test.YtjeimihnoiephaaGreatDoorQB7
import Derived.Test.YtjeimihnoiephaaGreatDoorQB8
import Derived.Test.YtjeimihnoiephaaGreatDoorQB9
import Derived.Test.YtjeimihnoiephaaGreatDoorQB10
import Derived.Test.YtjeimihnoiephaaGreatDoorQB11
import Derived.Test.YtjeimihnoiephaaGreatDoorQB12
import Derived.Test.YtjeimihnoiephaaGreatDoorQB13
import Derived.Test.YtjeimihnoiephaaGreatDoorQB14
import Derived.Test.YtjeimihnoiephaaGreatDoorQB15
import Derived.Test.YtjeimihnoiephaaGreatDoorQB16
import Derived.Test.YtjeimihnoiephaaGreatDoorQB17
import Derived.Test.YtjeimihnoiephaaGreatDoorQB18
import Derived.Test.YtjeimihnoiephaaGreatDoorQB19
import Derived.Test.YtjeimihnoiephaaGreatDoorQB20
import Derived.Test.YtjeimihnoiephaaGreatDoorQB21
import Derived.Test.YtjeimihnoiephaaGreatDoorQB22
import Derived.Test.YtjeimihnoiephaaGreatDoorQB23
import Derived.Test.YtjeimihnoiephaaGreatDoorQB24
import Derived.Test.YtjeimihnoiephaaGreatDoorQB25
import Derived.Test.YtjeimihnoiephaaGreatDoorQB26
import Derived.Test.YtjeimihnoiephaaGreatDoorQB29
import Derived.Test.YtjeimihnoiephaaGreatDoorQB30
import Derived.Test.YtjeimihnoiephaaGreatDoorQB31
import Derived.Test.YtjeimihnoiephaaGreatDoorQB32
import Derived.Test.YtjeimihnoiephaaGreatDoorQB33
import Derived.Test.YtjeimihnoiephaaGreatDoorQB35
namespace Go.Proofs.YtjeimihnoiephaaGreatDoor
open Go Go.RowKit
set_option linter.unusedVariables false
set_option maxRecDepth 100000 in
set_option maxHeartbeats 2000000 in
theorem rpri_e (a : Q4) (e : Int) (w : World) (g : Gd w) (hq : QErr a e) (he : e ≠ 0) : Calls Tryz.prog 21 #[.agg #[.int .i64 a.w, .int .i64 a.x, .int .i64 a.y, .int .i64 a.z]] w (Ret w (.tuple #[.agg #[.int .i64 0, .int .i64 0, .int .i64 0, .int .i64 0], .int .i64 e])) := by
  have HE := Lib.hid hq
  have HG := Lib.hid g
  clear hq g
  have he_n : (e != 0) = true := bne_iff_ne.2 he
  have he_e : (e == 0) = false := beq_eq_false_iff_ne.2 he
  clear he
  go_enter Tryz.func21, Tryz.ntmps21
  go_wp2_with fail
  refine (rchk_l _ (HG.out.ext (((Ext.refl w).alloc _).alloc _)) HE.out).mono ?_; rintro e w1 ⟨rfl, e1⟩
  have HX1 : Hid (Ext w w1) := Lib.hid ((((Ext.refl w).alloc _).alloc _).trans e1)
  have HB1_1 : Hid (Blk w1 (w.heap.size + 1) #[.int .i64 0, .int .i64 0, .int .i64 0, .int .i64 0] 22) := Lib.hid (Blk.ext (Blk.new' (w := _) (cs := #[.int .i64 0, .int .i64 0, .int .i64 0, .int .i64 0]) (t := 22) (by first | rfl | (simp only [World.size_alloc]; done) | (simp only [World.size_alloc]; omega) | simp)) e1)
  have HGEB1 : Hid (w.heap.size ≤ w.heap.size + 1) := Lib.hid (by first | omega | (simp only []; omega) | (simp; omega))
  clear e1
  have c1_0 := HB1_1.out.cell 0 rfl
  have f1_0 := HB1_1.out.free 0
  have c1_1 := HB1_1.out.cell 1 rfl
  have f1_1 := HB1_1.out.free 1
  have c1_2 := HB1_1.out.cell 2 rfl
  have f1_2 := HB1_1.out.free 2
  have c1_3 := HB1_1.out.cell 3 rfl
  have f1_3 := HB1_1.out.free 3
  go_wp2_with fail
  refine wp_name (fun W => Ext w W ∧ Blk W (w.heap.size + 1) #[.int .i64 0, .int .i64 0, .int .i64 0, .int .i64 0] 22) ⟨((((HX1.out.setCell (by have := HGEB1.out; first | omega | (simp only []; omega) | (simp; omega)) _).setCell (by have := HGEB1.out; first | omega | (simp only []; omega) | (simp; omega)) _).setCell (by have := HGEB1.out; first | omega | (simp only []; omega) | (simp; omega)) _).setCell (by have := HGEB1.out; first | omega | (simp only []; omega) | (simp; omega)) _), ((((HB1_1.out.set 0 (.int .i64 0)).set 1 (.int .i64 0)).set 2 (.int .i64 0)).set 3 (.int .i64 0))⟩ ?_
  rintro w2 ⟨e2, bB1_2⟩
  have HX2 := Lib.hid e2; have HB1_2 := Lib.hid bB1_2
  clear e2 bB1_2 c1_0 f1_0 c1_1 f1_1 c1_2 f1_2 c1_3 f1_3
  have gB1_0 := HB1_2.out.cell 0 rfl
  have gB1_1 := HB1_2.out.cell 1 rfl
  have gB1_2 := HB1_2.out.cell 2 rfl
  have gB1_3 := HB1_2.out.cell 3 rfl
  refine bodyPost_ret (v := .tuple #[.agg #[.int .i64 0, .int .i64 0, .int .i64 0, .int .i64 0], .int .i64 e]) (by simp [results, Tryz.results21, go_sem, gB1_0, gB1_1, gB1_2, gB1_3]) rfl ⟨rfl, HX2.out⟩

set_option maxRecDepth 100000 in
set_option maxHeartbeats 2000000 in
theorem rsame_a (a b : Q4) (e : Int) (w : World) (g : Gd w) (hea : QErr a e) (he : e ≠ 0) : Calls Tryz.prog 23 #[.agg #[.int .i64 a.w, .int .i64 a.x, .int .i64 a.y, .int .i64 a.z], .agg #[.int .i64 b.w, .int .i64 b.x, .int .i64 b.y, .int .i64 b.z]] w (Ret w (.tuple #[.bool false, .int .i64 e])) := by
  have HEA := Lib.hid hea
  have HNE := Lib.hid he
  have HG := Lib.hid g
  clear hea he g
  have he_n : (e != 0) = true := bne_iff_ne.2 HNE.out
  have he_e : (e == 0) = false := beq_eq_false_iff_ne.2 HNE.out
  go_enter Tryz.func23, Tryz.ntmps23
  go_wp2_with fail
  refine (rchks_a a b e (w.heap.size + 1 + 1) _ (HG.out.ext ((((Ext.refl w).alloc _).alloc _).alloc _)) (Blk.new' (w := _) (cs := #[.int .i64 a.w, .int .i64 a.x, .int .i64 a.y, .int .i64 a.z, .int .i64 b.w, .int .i64 b.x, .int .i64 b.y, .int .i64 b.z]) (t := 22) (by first | rfl | (simp only [World.size_alloc]; done) | (simp only [World.size_alloc]; omega) | simp)) HEA.out HNE.out).mono ?_; rintro e w1 ⟨rfl, e1⟩
  have HX1 : Hid (Ext w w1) := Lib.hid (((((Ext.refl w).alloc _).alloc _).alloc _).trans e1)
  have HB2_1 : Hid (Blk w1 (w.heap.size + 1 + 1) #[.int .i64 a.w, .int .i64 a.x, .int .i64 a.y, .int .i64 a.z, .int .i64 b.w, .int .i64 b.x, .int .i64 b.y, .int .i64 b.z] 22) := Lib.hid (Blk.ext (Blk.new' (w := _) (cs := #[.int .i64 a.w, .int .i64 a.x, .int .i64 a.y, .int .i64 a.z, .int .i64 b.w, .int .i64 b.x, .int .i64 b.y, .int .i64 b.z]) (t := 22) (by first | rfl | (simp only [World.size_alloc]; done) | (simp only [World.size_alloc]; omega) | simp)) e1)
  have HGEB2 : Hid (w.heap.size ≤ w.heap.size + 1 + 1) := Lib.hid (by first | omega | (simp only []; omega) | (simp; omega))
  clear e1
  go_wp2
  go_ret2
  exact ⟨rfl, HX1.out⟩

end Go.Proofs.YtjeimihnoiephaaGreatDoor
