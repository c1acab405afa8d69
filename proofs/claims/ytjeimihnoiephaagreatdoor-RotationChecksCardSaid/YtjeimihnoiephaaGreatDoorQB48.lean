/- Part 48 of the proof: M7, M8, M9. -/
import Derived.Test.YtjeimihnoiephaaGreatDoorQB1
import Derived.Test.YtjeimihnoiephaaGreatDoorQB2
import Derived.Test.YtjeimihnoiephaaGreatDoorQB3
import Derived.Test.YtjeimihnoiephaaGreatDoorQB4
import Derived.Test.YtjeimihnoiephaaGreatDoorQB5
import Derived.Test.YtjeimihnoiephaaGreatDoorQB6
import Derived.Test.YtjeimihnoiephaaGreatDoorQB7
import Derived.Test.YtjeimihnoiephaaGreatDoorQB8
import Derived.Test.YtjeimihnoiephaaGreatDoorQB9
import Derived.Test.YtjeimihnoiephaaGreatDoorQB10
import Derived.Test.YtjeimihnoiephaaGreatDoorQB11
import Derived.Test.YtjeimihnoiephaaGreatDoorQB12
import Derived.Test.YtjeimihnoiephaaGreatDoorQB13
import Derived.Test.YtjeimihnoiephaaGreatDoorQB14
import Derived.Test.YtjeimihnoiephaaGreatDoorQB15
import Derived.Test.YtjeimihnoiephaaGreatDoorQB16
import Derived.Test.YtjeimihnoiephaaGreatDoorQB17
import Derived.Test.YtjeimihnoiephaaGreatDoorQB18
import Derived.Test.YtjeimihnoiephaaGreatDoorQB19
import Derived.Test.YtjeimihnoiephaaGreatDoorQB20
import Derived.Test.YtjeimihnoiephaaGreatDoorQB21
import Derived.Test.YtjeimihnoiephaaGreatDoorQB22
import Derived.Test.YtjeimihnoiephaaGreatDoorQB23
import Derived.Test.YtjeimihnoiephaaGreatDoorQB24
import Derived.Test.YtjeimihnoiephaaGreatDoorQB25
import Derived.Test.YtjeimihnoiephaaGreatDoorQB26
import Derived.Test.YtjeimihnoiephaaGreatDoorQB29
import Derived.Test.YtjeimihnoiephaaGreatDoorQB30
import Derived.Test.YtjeimihnoiephaaGreatDoorQB31
import Derived.Test.YtjeimihnoiephaaGreatDoorQB32
import Derived.Test.YtjeimihnoiephaaGreatDoorQB33
import Derived.Test.YtjeimihnoiephaaGreatDoorQB35
import Derived.Test.YtjeimihnoiephaaGreatDoorQB37
import Derived.Test.YtjeimihnoiephaaGreatDoorQB44
import Derived.Test.YtjeimihnoiephaaGreatDoorQB47
namespace Go.Proofs.YtjeimihnoiephaaGreatDoor
open Go Go.RowKit
set_option linter.unusedVariables false
set_option maxRecDepth 100000 in
set_option maxHeartbeats 2000000 in
theorem rinv_e (a : Q4) (e : Int) (w : World) (g : Gd w) (hq : QErr a e) (he : e ≠ 0) : Calls Tryz.prog 22 #[.agg #[.int .i64 a.w, .int .i64 a.x, .int .i64 a.y, .int .i64 a.z]] w (Ret w (.tuple #[.agg #[.int .i64 0, .int .i64 0, .int .i64 0, .int .i64 0], .int .i64 e])) := by
  have HE := Lib.hid hq
  have HG := Lib.hid g
  clear hq g
  have he_n : (e != 0) = true := bne_iff_ne.2 he
  have he_e : (e == 0) = false := beq_eq_false_iff_ne.2 he
  clear he
  go_enter Tryz.func22, Tryz.ntmps22
  go_wp2_with fail
  refine (rchk_l _ (HG.out.ext (((Ext.refl w).alloc _).alloc _)) HE.out).mono ?_; rintro e w1 ⟨rfl, e1⟩
  have HX1 : Hid (Ext w w1) := Lib.hid ((((Ext.refl w).alloc _).alloc _).trans e1)
  have HB1_1 : Hid (Blk w1 (w.heap.size + 1) #[.int .i64 0, .int .i64 0, .int .i64 0, .int .i64 0] 22) := Lib.hid (Blk.ext (Blk.new' (w := _) (cs := #[.int .i64 0, .int .i64 0, .int .i64 0, .int .i64 0]) (t := 22) (by first | rfl | (simp only [World.size_alloc]; done) | (simp only [World.size_alloc]; omega) | simp)) e1)
  have HGEB1 : Hid (w.heap.size ≤ w.heap.size + 1) := Lib.hid (by first | omega | (simp only []; omega) | (simp; omega))
  clear e1
  have c1_0 := HB1_1.out.cell 0 rfl
  have f1_0 := HB1_1.out.free 0
  have c1_1 := HB1_1.out.cell 1 rfl
  have f1_1 := HB1_1.out.free 1
  have c1_2 := HB1_1.out.cell 2 rfl
  have f1_2 := HB1_1.out.free 2
  have c1_3 := HB1_1.out.cell 3 rfl
  have f1_3 := HB1_1.out.free 3
  go_wp2_with fail
  refine wp_name (fun W => Ext w W ∧ Blk W (w.heap.size + 1) #[.int .i64 0, .int .i64 0, .int .i64 0, .int .i64 0] 22) ⟨((((HX1.out.setCell (by have := HGEB1.out; first | omega | (simp only []; omega) | (simp; omega)) _).setCell (by have := HGEB1.out; first | omega | (simp only []; omega) | (simp; omega)) _).setCell (by have := HGEB1.out; first | omega | (simp only []; omega) | (simp; omega)) _).setCell (by have := HGEB1.out; first | omega | (simp only []; omega) | (simp; omega)) _), ((((HB1_1.out.set 0 (.int .i64 0)).set 1 (.int .i64 0)).set 2 (.int .i64 0)).set 3 (.int .i64 0))⟩ ?_
  rintro w2 ⟨e2, bB1_2⟩
  have HX2 := Lib.hid e2; have HB1_2 := Lib.hid bB1_2
  clear e2 bB1_2 c1_0 f1_0 c1_1 f1_1 c1_2 f1_2 c1_3 f1_3
  have gB1_0 := HB1_2.out.cell 0 rfl
  have gB1_1 := HB1_2.out.cell 1 rfl
  have gB1_2 := HB1_2.out.cell 2 rfl
  have gB1_3 := HB1_2.out.cell 3 rfl
  refine bodyPost_ret (v := .tuple #[.agg #[.int .i64 0, .int .i64 0, .int .i64 0, .int .i64 0], .int .i64 e]) (by simp [results, Tryz.results22, go_sem, gB1_0, gB1_1, gB1_2, gB1_3]) rfl ⟨rfl, HX2.out⟩

set_option maxRecDepth 100000 in
set_option maxHeartbeats 2000000 in
theorem rsame_b (a b : Q4) (e : Int) (w : World) (g : Gd w) (hea : QErr a 0) (heb : QErr b e) (he : e ≠ 0) : Calls Tryz.prog 23 #[.agg #[.int .i64 a.w, .int .i64 a.x, .int .i64 a.y, .int .i64 a.z], .agg #[.int .i64 b.w, .int .i64 b.x, .int .i64 b.y, .int .i64 b.z]] w (Ret w (.tuple #[.bool false, .int .i64 e])) := by
  have HEA := Lib.hid hea
  have HEB := Lib.hid heb
  have HNE := Lib.hid he
  have HG := Lib.hid g
  clear hea heb he g
  have he_n : (e != 0) = true := bne_iff_ne.2 HNE.out
  have he_e : (e == 0) = false := beq_eq_false_iff_ne.2 HNE.out
  go_enter Tryz.func23, Tryz.ntmps23
  go_wp2_with fail
  refine (rchks_b a b e (w.heap.size + 1 + 1) _ (HG.out.ext ((((Ext.refl w).alloc _).alloc _).alloc _)) (Blk.new' (w := _) (cs := #[.int .i64 a.w, .int .i64 a.x, .int .i64 a.y, .int .i64 a.z, .int .i64 b.w, .int .i64 b.x, .int .i64 b.y, .int .i64 b.z]) (t := 22) (by first | rfl | (simp only [World.size_alloc]; done) | (simp only [World.size_alloc]; omega) | simp)) HEA.out HEB.out HNE.out).mono ?_; rintro e w1 ⟨rfl, e1⟩
  have HX1 : Hid (Ext w w1) := Lib.hid (((((Ext.refl w).alloc _).alloc _).alloc _).trans e1)
  have HB2_1 : Hid (Blk w1 (w.heap.size + 1 + 1) #[.int .i64 a.w, .int .i64 a.x, .int .i64 a.y, .int .i64 a.z, .int .i64 b.w, .int .i64 b.x, .int .i64 b.y, .int .i64 b.z] 22) := Lib.hid (Blk.ext (Blk.new' (w := _) (cs := #[.int .i64 a.w, .int .i64 a.x, .int .i64 a.y, .int .i64 a.z, .int .i64 b.w, .int .i64 b.x, .int .i64 b.y, .int .i64 b.z]) (t := 22) (by first | rfl | (simp only [World.size_alloc]; done) | (simp only [World.size_alloc]; omega) | simp)) e1)
  have HGEB2 : Hid (w.heap.size ≤ w.heap.size + 1 + 1) := Lib.hid (by first | omega | (simp only []; omega) | (simp; omega))
  clear e1
  go_wp2
  go_ret2
  exact ⟨rfl, HX1.out⟩

end Go.Proofs.YtjeimihnoiephaaGreatDoor

namespace Go.Proofs.YtjeimihnoiephaaGreatDoor
open Go Go.RowKit
set_option linter.unusedVariables false
set_option maxRecDepth 100000 in
set_option maxHeartbeats 2000000 in
theorem rcomp_a (a b : Q4) (e : Int) (w : World) (g : Gd w) (hea : QErr a e) (he : e ≠ 0) : Calls Tryz.prog 24 #[.agg #[.int .i64 a.w, .int .i64 a.x, .int .i64 a.y, .int .i64 a.z], .agg #[.int .i64 b.w, .int .i64 b.x, .int .i64 b.y, .int .i64 b.z]] w (Ret w (.tuple #[.agg #[.int .i64 0, .int .i64 0, .int .i64 0, .int .i64 0], .int .i64 e])) := by
  have HEA := Lib.hid hea
  have HNE := Lib.hid he
  have HG := Lib.hid g
  clear hea he g
  have he_n : (e != 0) = true := bne_iff_ne.2 HNE.out
  have he_e : (e == 0) = false := beq_eq_false_iff_ne.2 HNE.out
  go_enter Tryz.func24, Tryz.ntmps24
  go_wp2_with fail
  refine (rchks_a a b e (w.heap.size + 1 + 1 + 1) _ (HG.out.ext (((((Ext.refl w).alloc _).alloc _).alloc _).alloc _)) (Blk.new' (w := _) (cs := #[.int .i64 a.w, .int .i64 a.x, .int .i64 a.y, .int .i64 a.z, .int .i64 b.w, .int .i64 b.x, .int .i64 b.y, .int .i64 b.z]) (t := 22) (by first | rfl | (simp only [World.size_alloc]; done) | (simp only [World.size_alloc]; omega) | simp)) HEA.out HNE.out).mono ?_; rintro e w1 ⟨rfl, e1⟩
  have HX1 : Hid (Ext w w1) := Lib.hid ((((((Ext.refl w).alloc _).alloc _).alloc _).alloc _).trans e1)
  have HB2_1 : Hid (Blk w1 (w.heap.size + 1 + 1) #[.int .i64 0, .int .i64 0, .int .i64 0, .int .i64 0] 22) := Lib.hid (Blk.ext ((Blk.new' (w := _) (cs := #[.int .i64 0, .int .i64 0, .int .i64 0, .int .i64 0]) (t := 22) (by first | rfl | (simp only [World.size_alloc]; done) | (simp only [World.size_alloc]; omega) | simp)).alloc _) e1)
  have HB3_1 : Hid (Blk w1 (w.heap.size + 1 + 1 + 1) #[.int .i64 a.w, .int .i64 a.x, .int .i64 a.y, .int .i64 a.z, .int .i64 b.w, .int .i64 b.x, .int .i64 b.y, .int .i64 b.z] 22) := Lib.hid (Blk.ext (Blk.new' (w := _) (cs := #[.int .i64 a.w, .int .i64 a.x, .int .i64 a.y, .int .i64 a.z, .int .i64 b.w, .int .i64 b.x, .int .i64 b.y, .int .i64 b.z]) (t := 22) (by first | rfl | (simp only [World.size_alloc]; done) | (simp only [World.size_alloc]; omega) | simp)) e1)
  have HGEB2 : Hid (w.heap.size ≤ w.heap.size + 1 + 1) := Lib.hid (by first | omega | (simp only []; omega) | (simp; omega))
  have HGEB3 : Hid (w.heap.size ≤ w.heap.size + 1 + 1 + 1) := Lib.hid (by first | omega | (simp only []; omega) | (simp; omega))
  clear e1
  have c2_0 := HB2_1.out.cell 0 rfl
  have f2_0 := HB2_1.out.free 0
  have c2_1 := HB2_1.out.cell 1 rfl
  have f2_1 := HB2_1.out.free 1
  have c2_2 := HB2_1.out.cell 2 rfl
  have f2_2 := HB2_1.out.free 2
  have c2_3 := HB2_1.out.cell 3 rfl
  have f2_3 := HB2_1.out.free 3
  go_wp2_with fail
  refine wp_name (fun W => Ext w W ∧ Blk W (w.heap.size + 1 + 1) #[.int .i64 0, .int .i64 0, .int .i64 0, .int .i64 0] 22) ⟨((((HX1.out.setCell (by have := HGEB2.out; first | omega | (simp only []; omega) | (simp; omega)) _).setCell (by have := HGEB2.out; first | omega | (simp only []; omega) | (simp; omega)) _).setCell (by have := HGEB2.out; first | omega | (simp only []; omega) | (simp; omega)) _).setCell (by have := HGEB2.out; first | omega | (simp only []; omega) | (simp; omega)) _), ((((HB2_1.out.set 0 (.int .i64 0)).set 1 (.int .i64 0)).set 2 (.int .i64 0)).set 3 (.int .i64 0))⟩ ?_
  rintro w2 ⟨e2, bB2_2⟩
  have HX2 := Lib.hid e2; have HB2_2 := Lib.hid bB2_2
  clear e2 bB2_2 c2_0 f2_0 c2_1 f2_1 c2_2 f2_2 c2_3 f2_3
  have gB2_0 := HB2_2.out.cell 0 rfl
  have gB2_1 := HB2_2.out.cell 1 rfl
  have gB2_2 := HB2_2.out.cell 2 rfl
  have gB2_3 := HB2_2.out.cell 3 rfl
  refine bodyPost_ret (v := .tuple #[.agg #[.int .i64 0, .int .i64 0, .int .i64 0, .int .i64 0], .int .i64 e]) (by simp [results, Tryz.results24, go_sem, gB2_0, gB2_1, gB2_2, gB2_3]) rfl ⟨rfl, HX2.out⟩

set_option maxRecDepth 100000 in
set_option maxHeartbeats 2000000 in
theorem rcomp_b (a b : Q4) (e : Int) (w : World) (g : Gd w) (hea : QErr a 0) (heb : QErr b e) (he : e ≠ 0) : Calls Tryz.prog 24 #[.agg #[.int .i64 a.w, .int .i64 a.x, .int .i64 a.y, .int .i64 a.z], .agg #[.int .i64 b.w, .int .i64 b.x, .int .i64 b.y, .int .i64 b.z]] w (Ret w (.tuple #[.agg #[.int .i64 0, .int .i64 0, .int .i64 0, .int .i64 0], .int .i64 e])) := by
  have HEA := Lib.hid hea
  have HEB := Lib.hid heb
  have HNE := Lib.hid he
  have HG := Lib.hid g
  clear hea heb he g
  have he_n : (e != 0) = true := bne_iff_ne.2 HNE.out
  have he_e : (e == 0) = false := beq_eq_false_iff_ne.2 HNE.out
  go_enter Tryz.func24, Tryz.ntmps24
  go_wp2_with fail
  refine (rchks_b a b e (w.heap.size + 1 + 1 + 1) _ (HG.out.ext (((((Ext.refl w).alloc _).alloc _).alloc _).alloc _)) (Blk.new' (w := _) (cs := #[.int .i64 a.w, .int .i64 a.x, .int .i64 a.y, .int .i64 a.z, .int .i64 b.w, .int .i64 b.x, .int .i64 b.y, .int .i64 b.z]) (t := 22) (by first | rfl | (simp only [World.size_alloc]; done) | (simp only [World.size_alloc]; omega) | simp)) HEA.out HEB.out HNE.out).mono ?_; rintro e w1 ⟨rfl, e1⟩
  have HX1 : Hid (Ext w w1) := Lib.hid ((((((Ext.refl w).alloc _).alloc _).alloc _).alloc _).trans e1)
  have HB2_1 : Hid (Blk w1 (w.heap.size + 1 + 1) #[.int .i64 0, .int .i64 0, .int .i64 0, .int .i64 0] 22) := Lib.hid (Blk.ext ((Blk.new' (w := _) (cs := #[.int .i64 0, .int .i64 0, .int .i64 0, .int .i64 0]) (t := 22) (by first | rfl | (simp only [World.size_alloc]; done) | (simp only [World.size_alloc]; omega) | simp)).alloc _) e1)
  have HB3_1 : Hid (Blk w1 (w.heap.size + 1 + 1 + 1) #[.int .i64 a.w, .int .i64 a.x, .int .i64 a.y, .int .i64 a.z, .int .i64 b.w, .int .i64 b.x, .int .i64 b.y, .int .i64 b.z] 22) := Lib.hid (Blk.ext (Blk.new' (w := _) (cs := #[.int .i64 a.w, .int .i64 a.x, .int .i64 a.y, .int .i64 a.z, .int .i64 b.w, .int .i64 b.x, .int .i64 b.y, .int .i64 b.z]) (t := 22) (by first | rfl | (simp only [World.size_alloc]; done) | (simp only [World.size_alloc]; omega) | simp)) e1)
  have HGEB2 : Hid (w.heap.size ≤ w.heap.size + 1 + 1) := Lib.hid (by first | omega | (simp only []; omega) | (simp; omega))
  have HGEB3 : Hid (w.heap.size ≤ w.heap.size + 1 + 1 + 1) := Lib.hid (by first | omega | (simp only []; omega) | (simp; omega))
  clear e1
  have c2_0 := HB2_1.out.cell 0 rfl
  have f2_0 := HB2_1.out.free 0
  have c2_1 := HB2_1.out.cell 1 rfl
  have f2_1 := HB2_1.out.free 1
  have c2_2 := HB2_1.out.cell 2 rfl
  have f2_2 := HB2_1.out.free 2
  have c2_3 := HB2_1.out.cell 3 rfl
  have f2_3 := HB2_1.out.free 3
  go_wp2_with fail
  refine wp_name (fun W => Ext w W ∧ Blk W (w.heap.size + 1 + 1) #[.int .i64 0, .int .i64 0, .int .i64 0, .int .i64 0] 22) ⟨((((HX1.out.setCell (by have := HGEB2.out; first | omega | (simp only []; omega) | (simp; omega)) _).setCell (by have := HGEB2.out; first | omega | (simp only []; omega) | (simp; omega)) _).setCell (by have := HGEB2.out; first | omega | (simp only []; omega) | (simp; omega)) _).setCell (by have := HGEB2.out; first | omega | (simp only []; omega) | (simp; omega)) _), ((((HB2_1.out.set 0 (.int .i64 0)).set 1 (.int .i64 0)).set 2 (.int .i64 0)).set 3 (.int .i64 0))⟩ ?_
  rintro w2 ⟨e2, bB2_2⟩
  have HX2 := Lib.hid e2; have HB2_2 := Lib.hid bB2_2
  clear e2 bB2_2 c2_0 f2_0 c2_1 f2_1 c2_2 f2_2 c2_3 f2_3
  have gB2_0 := HB2_2.out.cell 0 rfl
  have gB2_1 := HB2_2.out.cell 1 rfl
  have gB2_2 := HB2_2.out.cell 2 rfl
  have gB2_3 := HB2_2.out.cell 3 rfl
  refine bodyPost_ret (v := .tuple #[.agg #[.int .i64 0, .int .i64 0, .int .i64 0, .int .i64 0], .int .i64 e]) (by simp [results, Tryz.results24, go_sem, gB2_0, gB2_1, gB2_2, gB2_3]) rfl ⟨rfl, HX2.out⟩

end Go.Proofs.YtjeimihnoiephaaGreatDoor

namespace Go.Proofs.YtjeimihnoiephaaGreatDoor
open Go Go.RowKit
set_option linter.unusedVariables false
set_option maxRecDepth 100000 in
set_option maxHeartbeats 2000000 in
theorem rmat_e (t : Q4) (e : Int) (w : World) (g : Gd w) (hq : QErr t e) (he : e ≠ 0) : Calls Tryz.prog 29 #[.agg #[.int .i64 t.w, .int .i64 t.x, .int .i64 t.y, .int .i64 t.z]] w (Ret w (.tuple #[.agg #[.string ⟨#[]⟩, .string ⟨#[]⟩, .string ⟨#[]⟩, .string ⟨#[]⟩, .string ⟨#[]⟩, .string ⟨#[]⟩, .string ⟨#[]⟩, .string ⟨#[]⟩, .string ⟨#[]⟩], .int .i64 e])) := by
  have HE := Lib.hid hq
  have HG := Lib.hid g
  clear hq g
  have he_n : (e != 0) = true := bne_iff_ne.2 he
  have he_e : (e == 0) = false := beq_eq_false_iff_ne.2 he
  clear he
  go_enter Tryz.func29, Tryz.ntmps29
  go_wp2_with fail
  refine (rchk_l _ (HG.out.ext (((Ext.refl w).alloc _).alloc _)) HE.out).mono ?_; rintro e w1 ⟨rfl, e1⟩
  have HX1 : Hid (Ext w w1) := Lib.hid ((((Ext.refl w).alloc _).alloc _).trans e1)
  have HB1_1 : Hid (Blk w1 (w.heap.size + 1) #[.string ⟨#[]⟩, .string ⟨#[]⟩, .string ⟨#[]⟩, .string ⟨#[]⟩, .string ⟨#[]⟩, .string ⟨#[]⟩, .string ⟨#[]⟩, .string ⟨#[]⟩, .string ⟨#[]⟩] 59) := Lib.hid (Blk.ext (Blk.new' (w := _) (cs := #[.string ⟨#[]⟩, .string ⟨#[]⟩, .string ⟨#[]⟩, .string ⟨#[]⟩, .string ⟨#[]⟩, .string ⟨#[]⟩, .string ⟨#[]⟩, .string ⟨#[]⟩, .string ⟨#[]⟩]) (t := 59) (by first | rfl | (simp only [World.size_alloc]; done) | (simp only [World.size_alloc]; omega) | simp)) e1)
  have HGEB1 : Hid (w.heap.size ≤ w.heap.size + 1) := Lib.hid (by first | omega | (simp only []; omega) | (simp; omega))
  clear e1
  have c1_0 := HB1_1.out.cell 0 rfl
  have f1_0 := HB1_1.out.free 0
  have c1_1 := HB1_1.out.cell 1 rfl
  have f1_1 := HB1_1.out.free 1
  have c1_2 := HB1_1.out.cell 2 rfl
  have f1_2 := HB1_1.out.free 2
  have c1_3 := HB1_1.out.cell 3 rfl
  have f1_3 := HB1_1.out.free 3
  have c1_4 := HB1_1.out.cell 4 rfl
  have f1_4 := HB1_1.out.free 4
  have c1_5 := HB1_1.out.cell 5 rfl
  have f1_5 := HB1_1.out.free 5
  have c1_6 := HB1_1.out.cell 6 rfl
  have f1_6 := HB1_1.out.free 6
  have c1_7 := HB1_1.out.cell 7 rfl
  have f1_7 := HB1_1.out.free 7
  have c1_8 := HB1_1.out.cell 8 rfl
  have f1_8 := HB1_1.out.free 8
  go_wp2_with fail
  refine wp_name (fun W => Ext w W ∧ Blk W (w.heap.size + 1) #[.string ⟨#[]⟩, .string ⟨#[]⟩, .string ⟨#[]⟩, .string ⟨#[]⟩, .string ⟨#[]⟩, .string ⟨#[]⟩, .string ⟨#[]⟩, .string ⟨#[]⟩, .string ⟨#[]⟩] 59) ⟨(((((((((HX1.out.setCell (by have := HGEB1.out; first | omega | (simp only []; omega) | (simp; omega)) _).setCell (by have := HGEB1.out; first | omega | (simp only []; omega) | (simp; omega)) _).setCell (by have := HGEB1.out; first | omega | (simp only []; omega) | (simp; omega)) _).setCell (by have := HGEB1.out; first | omega | (simp only []; omega) | (simp; omega)) _).setCell (by have := HGEB1.out; first | omega | (simp only []; omega) | (simp; omega)) _).setCell (by have := HGEB1.out; first | omega | (simp only []; omega) | (simp; omega)) _).setCell (by have := HGEB1.out; first | omega | (simp only []; omega) | (simp; omega)) _).setCell (by have := HGEB1.out; first | omega | (simp only []; omega) | (simp; omega)) _).setCell (by have := HGEB1.out; first | omega | (simp only []; omega) | (simp; omega)) _), (((((((((HB1_1.out.set 0 (.string ⟨#[]⟩)).set 1 (.string ⟨#[]⟩)).set 2 (.string ⟨#[]⟩)).set 3 (.string ⟨#[]⟩)).set 4 (.string ⟨#[]⟩)).set 5 (.string ⟨#[]⟩)).set 6 (.string ⟨#[]⟩)).set 7 (.string ⟨#[]⟩)).set 8 (.string ⟨#[]⟩))⟩ ?_
  rintro w2 ⟨e2, bB1_2⟩
  have HX2 := Lib.hid e2; have HB1_2 := Lib.hid bB1_2
  clear e2 bB1_2 c1_0 f1_0 c1_1 f1_1 c1_2 f1_2 c1_3 f1_3 c1_4 f1_4 c1_5 f1_5 c1_6 f1_6 c1_7 f1_7 c1_8 f1_8
  have gB1_0 := HB1_2.out.cell 0 rfl
  have gB1_1 := HB1_2.out.cell 1 rfl
  have gB1_2 := HB1_2.out.cell 2 rfl
  have gB1_3 := HB1_2.out.cell 3 rfl
  have gB1_4 := HB1_2.out.cell 4 rfl
  have gB1_5 := HB1_2.out.cell 5 rfl
  have gB1_6 := HB1_2.out.cell 6 rfl
  have gB1_7 := HB1_2.out.cell 7 rfl
  have gB1_8 := HB1_2.out.cell 8 rfl
  refine bodyPost_ret (v := .tuple #[.agg #[.string ⟨#[]⟩, .string ⟨#[]⟩, .string ⟨#[]⟩, .string ⟨#[]⟩, .string ⟨#[]⟩, .string ⟨#[]⟩, .string ⟨#[]⟩, .string ⟨#[]⟩, .string ⟨#[]⟩], .int .i64 e]) (by simp [results, Tryz.results29, go_sem, gB1_0, gB1_1, gB1_2, gB1_3, gB1_4, gB1_5, gB1_6, gB1_7, gB1_8]) rfl ⟨rfl, HX2.out⟩

set_option maxRecDepth 100000 in
set_option maxHeartbeats 2000000 in
theorem raxis_e (t : Q4) (e : Int) (w : World) (g : Gd w) (hq : QErr t e) (he : e ≠ 0) : Calls Tryz.prog 32 #[.agg #[.int .i64 t.w, .int .i64 t.x, .int .i64 t.y, .int .i64 t.z]] w (Ret w (.tuple #[.agg #[.string ⟨#[]⟩, .string ⟨#[]⟩, .string ⟨#[]⟩], .int .i64 e])) := by
  have HE := Lib.hid hq
  have HG := Lib.hid g
  clear hq g
  have he_n : (e != 0) = true := bne_iff_ne.2 he
  have he_e : (e == 0) = false := beq_eq_false_iff_ne.2 he
  clear he
  go_enter Tryz.func32, Tryz.ntmps32
  go_wp2_with fail
  refine (rchk_l _ (HG.out.ext (((Ext.refl w).alloc _).alloc _)) HE.out).mono ?_; rintro e w1 ⟨rfl, e1⟩
  have HX1 : Hid (Ext w w1) := Lib.hid ((((Ext.refl w).alloc _).alloc _).trans e1)
  have HB1_1 : Hid (Blk w1 (w.heap.size + 1) #[.string ⟨#[]⟩, .string ⟨#[]⟩, .string ⟨#[]⟩] 31) := Lib.hid (Blk.ext (Blk.new' (w := _) (cs := #[.string ⟨#[]⟩, .string ⟨#[]⟩, .string ⟨#[]⟩]) (t := 31) (by first | rfl | (simp only [World.size_alloc]; done) | (simp only [World.size_alloc]; omega) | simp)) e1)
  have HGEB1 : Hid (w.heap.size ≤ w.heap.size + 1) := Lib.hid (by first | omega | (simp only []; omega) | (simp; omega))
  clear e1
  have c1_0 := HB1_1.out.cell 0 rfl
  have f1_0 := HB1_1.out.free 0
  have c1_1 := HB1_1.out.cell 1 rfl
  have f1_1 := HB1_1.out.free 1
  have c1_2 := HB1_1.out.cell 2 rfl
  have f1_2 := HB1_1.out.free 2
  go_wp2_with fail
  refine wp_name (fun W => Ext w W ∧ Blk W (w.heap.size + 1) #[.string ⟨#[]⟩, .string ⟨#[]⟩, .string ⟨#[]⟩] 31) ⟨(((HX1.out.setCell (by have := HGEB1.out; first | omega | (simp only []; omega) | (simp; omega)) _).setCell (by have := HGEB1.out; first | omega | (simp only []; omega) | (simp; omega)) _).setCell (by have := HGEB1.out; first | omega | (simp only []; omega) | (simp; omega)) _), (((HB1_1.out.set 0 (.string ⟨#[]⟩)).set 1 (.string ⟨#[]⟩)).set 2 (.string ⟨#[]⟩))⟩ ?_
  rintro w2 ⟨e2, bB1_2⟩
  have HX2 := Lib.hid e2; have HB1_2 := Lib.hid bB1_2
  clear e2 bB1_2 c1_0 f1_0 c1_1 f1_1 c1_2 f1_2
  have gB1_0 := HB1_2.out.cell 0 rfl
  have gB1_1 := HB1_2.out.cell 1 rfl
  have gB1_2 := HB1_2.out.cell 2 rfl
  refine bodyPost_ret (v := .tuple #[.agg #[.string ⟨#[]⟩, .string ⟨#[]⟩, .string ⟨#[]⟩], .int .i64 e]) (by simp [results, Tryz.results32, go_sem, gB1_0, gB1_1, gB1_2]) rfl ⟨rfl, HX2.out⟩

set_option maxRecDepth 100000 in
set_option maxHeartbeats 2000000 in
theorem rcos_e (t : Q4) (e : Int) (w : World) (g : Gd w) (hq : QErr t e) (he : e ≠ 0) : Calls Tryz.prog 33 #[.agg #[.int .i64 t.w, .int .i64 t.x, .int .i64 t.y, .int .i64 t.z]] w (Ret w (.tuple #[.string ⟨#[]⟩, .int .i64 e])) := by
  have HE := Lib.hid hq
  have HG := Lib.hid g
  clear hq g
  have he_n : (e != 0) = true := bne_iff_ne.2 he
  have he_e : (e == 0) = false := beq_eq_false_iff_ne.2 he
  clear he
  go_enter Tryz.func33, Tryz.ntmps33
  go_wp2_with fail
  refine (rchk_l _ (HG.out.ext ((Ext.refl w).alloc _)) HE.out).mono ?_; rintro e w1 ⟨rfl, e1⟩
  have HX1 : Hid (Ext w w1) := Lib.hid (((Ext.refl w).alloc _).trans e1)
  clear e1
  go_wp2
  go_ret2
  exact ⟨rfl, HX1.out⟩

set_option maxRecDepth 100000 in
set_option maxHeartbeats 2000000 in
theorem rapp_e (t : Q4) (e : Int) (w : World) (g : Gd w) (hq : QErr t e) (he : e ≠ 0) : Calls Tryz.prog 30 #[.agg #[.int .i64 t.w, .int .i64 t.x, .int .i64 t.y, .int .i64 t.z], .agg #[.string ⟨#[]⟩, .string ⟨#[]⟩, .string ⟨#[]⟩]] w (Ret w (.tuple #[.agg #[.string ⟨#[]⟩, .string ⟨#[]⟩, .string ⟨#[]⟩], .int .i64 e])) := by
  have HE := Lib.hid hq
  have HNE := Lib.hid he
  have HG := Lib.hid g
  clear hq he g
  have he_n : (e != 0) = true := bne_iff_ne.2 HNE.out
  have he_e : (e == 0) = false := beq_eq_false_iff_ne.2 HNE.out
  go_enter Tryz.func30, Tryz.ntmps30
  go_wp2_with fail
  refine (rboth_e t ⟨⟨#[]⟩, ⟨#[]⟩, ⟨#[]⟩⟩ e _ (HG.out.ext ((((Ext.refl w).alloc _).alloc _).alloc _)) HE.out HNE.out).mono ?_; rintro e w1 ⟨rfl, e1⟩
  have HX1 : Hid (Ext w w1) := Lib.hid (((((Ext.refl w).alloc _).alloc _).alloc _).trans e1)
  have HB2_1 : Hid (Blk w1 (w.heap.size + 1 + 1) #[.string ⟨#[]⟩, .string ⟨#[]⟩, .string ⟨#[]⟩] 31) := Lib.hid (Blk.ext (Blk.new' (w := _) (cs := #[.string ⟨#[]⟩, .string ⟨#[]⟩, .string ⟨#[]⟩]) (t := 31) (by first | rfl | (simp only [World.size_alloc]; done) | (simp only [World.size_alloc]; omega) | simp)) e1)
  have HGEB2 : Hid (w.heap.size ≤ w.heap.size + 1 + 1) := Lib.hid (by first | omega | (simp only []; omega) | (simp; omega))
  clear e1
  have c2_0 := HB2_1.out.cell 0 rfl
  have f2_0 := HB2_1.out.free 0
  have c2_1 := HB2_1.out.cell 1 rfl
  have f2_1 := HB2_1.out.free 1
  have c2_2 := HB2_1.out.cell 2 rfl
  have f2_2 := HB2_1.out.free 2
  go_wp2_with fail
  refine wp_name (fun W => Ext w W ∧ Blk W (w.heap.size + 1 + 1) #[.string ⟨#[]⟩, .string ⟨#[]⟩, .string ⟨#[]⟩] 31) ⟨(((HX1.out.setCell (by have := HGEB2.out; first | omega | (simp only []; omega) | (simp; omega)) _).setCell (by have := HGEB2.out; first | omega | (simp only []; omega) | (simp; omega)) _).setCell (by have := HGEB2.out; first | omega | (simp only []; omega) | (simp; omega)) _), (((HB2_1.out.set 0 (.string ⟨#[]⟩)).set 1 (.string ⟨#[]⟩)).set 2 (.string ⟨#[]⟩))⟩ ?_
  rintro w2 ⟨e2, bB2_2⟩
  have HX2 := Lib.hid e2; have HB2_2 := Lib.hid bB2_2
  clear e2 bB2_2 c2_0 f2_0 c2_1 f2_1 c2_2 f2_2
  have gB2_0 := HB2_2.out.cell 0 rfl
  have gB2_1 := HB2_2.out.cell 1 rfl
  have gB2_2 := HB2_2.out.cell 2 rfl
  refine bodyPost_ret (v := .tuple #[.agg #[.string ⟨#[]⟩, .string ⟨#[]⟩, .string ⟨#[]⟩], .int .i64 e]) (by simp [results, Tryz.results30, go_sem, gB2_0, gB2_1, gB2_2]) rfl ⟨rfl, HX2.out⟩

set_option maxRecDepth 100000 in
set_option maxHeartbeats 2000000 in
theorem rabout_e (t : Q4) (e : Int) (w : World) (g : Gd w) (hq : QErr t e) (he : e ≠ 0) : Calls Tryz.prog 31 #[.agg #[.int .i64 t.w, .int .i64 t.x, .int .i64 t.y, .int .i64 t.z], .agg #[.string ⟨#[]⟩, .string ⟨#[]⟩, .string ⟨#[]⟩]] w (Ret w (.tuple #[.agg #[.string ⟨#[]⟩, .string ⟨#[]⟩, .string ⟨#[]⟩, .string ⟨#[]⟩, .string ⟨#[]⟩, .string ⟨#[]⟩, .string ⟨#[]⟩, .string ⟨#[]⟩, .string ⟨#[]⟩, .string ⟨#[]⟩, .string ⟨#[]⟩, .string ⟨#[]⟩], .int .i64 e])) := by
  have HE := Lib.hid hq
  have HNE := Lib.hid he
  have HG := Lib.hid g
  clear hq he g
  have he_n : (e != 0) = true := bne_iff_ne.2 HNE.out
  have he_e : (e == 0) = false := beq_eq_false_iff_ne.2 HNE.out
  go_enter Tryz.func31, Tryz.ntmps31
  go_wp2_with fail
  refine (rboth_e t ⟨⟨#[]⟩, ⟨#[]⟩, ⟨#[]⟩⟩ e _ (HG.out.ext ((((Ext.refl w).alloc _).alloc _).alloc _)) HE.out HNE.out).mono ?_; rintro e w1 ⟨rfl, e1⟩
  have HX1 : Hid (Ext w w1) := Lib.hid (((((Ext.refl w).alloc _).alloc _).alloc _).trans e1)
  have HB2_1 : Hid (Blk w1 (w.heap.size + 1 + 1) #[.string ⟨#[]⟩, .string ⟨#[]⟩, .string ⟨#[]⟩, .string ⟨#[]⟩, .string ⟨#[]⟩, .string ⟨#[]⟩, .string ⟨#[]⟩, .string ⟨#[]⟩, .string ⟨#[]⟩, .string ⟨#[]⟩, .string ⟨#[]⟩, .string ⟨#[]⟩] 66) := Lib.hid (Blk.ext (Blk.new' (w := _) (cs := #[.string ⟨#[]⟩, .string ⟨#[]⟩, .string ⟨#[]⟩, .string ⟨#[]⟩, .string ⟨#[]⟩, .string ⟨#[]⟩, .string ⟨#[]⟩, .string ⟨#[]⟩, .string ⟨#[]⟩, .string ⟨#[]⟩, .string ⟨#[]⟩, .string ⟨#[]⟩]) (t := 66) (by first | rfl | (simp only [World.size_alloc]; done) | (simp only [World.size_alloc]; omega) | simp)) e1)
  have HGEB2 : Hid (w.heap.size ≤ w.heap.size + 1 + 1) := Lib.hid (by first | omega | (simp only []; omega) | (simp; omega))
  clear e1
  have c2_0 := HB2_1.out.cell 0 rfl
  have f2_0 := HB2_1.out.free 0
  have c2_1 := HB2_1.out.cell 1 rfl
  have f2_1 := HB2_1.out.free 1
  have c2_2 := HB2_1.out.cell 2 rfl
  have f2_2 := HB2_1.out.free 2
  have c2_3 := HB2_1.out.cell 3 rfl
  have f2_3 := HB2_1.out.free 3
  have c2_4 := HB2_1.out.cell 4 rfl
  have f2_4 := HB2_1.out.free 4
  have c2_5 := HB2_1.out.cell 5 rfl
  have f2_5 := HB2_1.out.free 5
  have c2_6 := HB2_1.out.cell 6 rfl
  have f2_6 := HB2_1.out.free 6
  have c2_7 := HB2_1.out.cell 7 rfl
  have f2_7 := HB2_1.out.free 7
  have c2_8 := HB2_1.out.cell 8 rfl
  have f2_8 := HB2_1.out.free 8
  have c2_9 := HB2_1.out.cell 9 rfl
  have f2_9 := HB2_1.out.free 9
  have c2_10 := HB2_1.out.cell 10 rfl
  have f2_10 := HB2_1.out.free 10
  have c2_11 := HB2_1.out.cell 11 rfl
  have f2_11 := HB2_1.out.free 11
  go_wp2_with fail
  refine wp_name (fun W => Ext w W ∧ Blk W (w.heap.size + 1 + 1) #[.string ⟨#[]⟩, .string ⟨#[]⟩, .string ⟨#[]⟩, .string ⟨#[]⟩, .string ⟨#[]⟩, .string ⟨#[]⟩, .string ⟨#[]⟩, .string ⟨#[]⟩, .string ⟨#[]⟩, .string ⟨#[]⟩, .string ⟨#[]⟩, .string ⟨#[]⟩] 66) ⟨((((((((((((HX1.out.setCell (by have := HGEB2.out; first | omega | (simp only []; omega) | (simp; omega)) _).setCell (by have := HGEB2.out; first | omega | (simp only []; omega) | (simp; omega)) _).setCell (by have := HGEB2.out; first | omega | (simp only []; omega) | (simp; omega)) _).setCell (by have := HGEB2.out; first | omega | (simp only []; omega) | (simp; omega)) _).setCell (by have := HGEB2.out; first | omega | (simp only []; omega) | (simp; omega)) _).setCell (by have := HGEB2.out; first | omega | (simp only []; omega) | (simp; omega)) _).setCell (by have := HGEB2.out; first | omega | (simp only []; omega) | (simp; omega)) _).setCell (by have := HGEB2.out; first | omega | (simp only []; omega) | (simp; omega)) _).setCell (by have := HGEB2.out; first | omega | (simp only []; omega) | (simp; omega)) _).setCell (by have := HGEB2.out; first | omega | (simp only []; omega) | (simp; omega)) _).setCell (by have := HGEB2.out; first | omega | (simp only []; omega) | (simp; omega)) _).setCell (by have := HGEB2.out; first | omega | (simp only []; omega) | (simp; omega)) _), ((((((((((((HB2_1.out.set 0 (.string ⟨#[]⟩)).set 1 (.string ⟨#[]⟩)).set 2 (.string ⟨#[]⟩)).set 3 (.string ⟨#[]⟩)).set 4 (.string ⟨#[]⟩)).set 5 (.string ⟨#[]⟩)).set 6 (.string ⟨#[]⟩)).set 7 (.string ⟨#[]⟩)).set 8 (.string ⟨#[]⟩)).set 9 (.string ⟨#[]⟩)).set 10 (.string ⟨#[]⟩)).set 11 (.string ⟨#[]⟩))⟩ ?_
  rintro w2 ⟨e2, bB2_2⟩
  have HX2 := Lib.hid e2; have HB2_2 := Lib.hid bB2_2
  clear e2 bB2_2 c2_0 f2_0 c2_1 f2_1 c2_2 f2_2 c2_3 f2_3 c2_4 f2_4 c2_5 f2_5 c2_6 f2_6 c2_7 f2_7 c2_8 f2_8 c2_9 f2_9 c2_10 f2_10 c2_11 f2_11
  have gB2_0 := HB2_2.out.cell 0 rfl
  have gB2_1 := HB2_2.out.cell 1 rfl
  have gB2_2 := HB2_2.out.cell 2 rfl
  have gB2_3 := HB2_2.out.cell 3 rfl
  have gB2_4 := HB2_2.out.cell 4 rfl
  have gB2_5 := HB2_2.out.cell 5 rfl
  have gB2_6 := HB2_2.out.cell 6 rfl
  have gB2_7 := HB2_2.out.cell 7 rfl
  have gB2_8 := HB2_2.out.cell 8 rfl
  have gB2_9 := HB2_2.out.cell 9 rfl
  have gB2_10 := HB2_2.out.cell 10 rfl
  have gB2_11 := HB2_2.out.cell 11 rfl
  refine bodyPost_ret (v := .tuple #[.agg #[.string ⟨#[]⟩, .string ⟨#[]⟩, .string ⟨#[]⟩, .string ⟨#[]⟩, .string ⟨#[]⟩, .string ⟨#[]⟩, .string ⟨#[]⟩, .string ⟨#[]⟩, .string ⟨#[]⟩, .string ⟨#[]⟩, .string ⟨#[]⟩, .string ⟨#[]⟩], .int .i64 e]) (by simp [results, Tryz.results31, go_sem, gB2_0, gB2_1, gB2_2, gB2_3, gB2_4, gB2_5, gB2_6, gB2_7, gB2_8, gB2_9, gB2_10, gB2_11]) rfl ⟨rfl, HX2.out⟩

theorem rq_empty : rq ⟨#[]⟩ = false := by
  cases h : rq ⟨#[]⟩ with
  | false => rfl
  | true =>
    obtain ⟨q, hq, _⟩ := rq_true.1 h
    exfalso
    have hq' : ql q = [] := hq.symm
    by_cases hd : q.den = 1
    · rw [ql_one hd] at hq'; exact zl_ne _ hq'
    · rw [ql_frac hd] at hq'; simp at hq'
theorem empty_wrong : terr (T3.l ⟨⟨#[]⟩, ⟨#[]⟩, ⟨#[]⟩⟩) = 2 := terr_2 (by simp only [T3.l, List.all_cons, rq_empty, Bool.false_and])
theorem rboth_0 (t : Q4) (w : World) (g : Gd w) (hq : QErr t 0) : Calls Tryz.prog 61 #[.agg #[.int .i64 t.w, .int .i64 t.x, .int .i64 t.y, .int .i64 t.z], .agg #[.string ⟨#[]⟩, .string ⟨#[]⟩, .string ⟨#[]⟩]] w (Ret w (.int .i64 2)) :=
  rboth_n t ⟨⟨#[]⟩, ⟨#[]⟩, ⟨#[]⟩⟩ w g hq ⟨show (⟨#[]⟩ : ByteArray).size ≤ 1000000 by decide, show (⟨#[]⟩ : ByteArray).size ≤ 1000000 by decide, show (⟨#[]⟩ : ByteArray).size ≤ 1000000 by decide⟩ empty_wrong

set_option maxRecDepth 100000 in
set_option maxHeartbeats 2000000 in
theorem rapp_0 (t : Q4) (w : World) (g : Gd w) (hq : QErr t 0) : Calls Tryz.prog 30 #[.agg #[.int .i64 t.w, .int .i64 t.x, .int .i64 t.y, .int .i64 t.z], .agg #[.string ⟨#[]⟩, .string ⟨#[]⟩, .string ⟨#[]⟩]] w (Ret w (.tuple #[.agg #[.string ⟨#[]⟩, .string ⟨#[]⟩, .string ⟨#[]⟩], .int .i64 2])) := by
  have HE := Lib.hid hq
  have HG := Lib.hid g
  clear hq g
  go_enter Tryz.func30, Tryz.ntmps30
  go_wp2_with fail
  refine (rboth_0 t _ (HG.out.ext ((((Ext.refl w).alloc _).alloc _).alloc _)) HE.out).mono ?_; rintro e w1 ⟨rfl, e1⟩
  have HX1 : Hid (Ext w w1) := Lib.hid (((((Ext.refl w).alloc _).alloc _).alloc _).trans e1)
  have HB2_1 : Hid (Blk w1 (w.heap.size + 1 + 1) #[.string ⟨#[]⟩, .string ⟨#[]⟩, .string ⟨#[]⟩] 31) := Lib.hid (Blk.ext (Blk.new' (w := _) (cs := #[.string ⟨#[]⟩, .string ⟨#[]⟩, .string ⟨#[]⟩]) (t := 31) (by first | rfl | (simp only [World.size_alloc]; done) | (simp only [World.size_alloc]; omega) | simp)) e1)
  have HGEB2 : Hid (w.heap.size ≤ w.heap.size + 1 + 1) := Lib.hid (by first | omega | (simp only []; omega) | (simp; omega))
  clear e1
  have c2_0 := HB2_1.out.cell 0 rfl
  have f2_0 := HB2_1.out.free 0
  have c2_1 := HB2_1.out.cell 1 rfl
  have f2_1 := HB2_1.out.free 1
  have c2_2 := HB2_1.out.cell 2 rfl
  have f2_2 := HB2_1.out.free 2
  go_wp2_with fail
  refine wp_name (fun W => Ext w W ∧ Blk W (w.heap.size + 1 + 1) #[.string ⟨#[]⟩, .string ⟨#[]⟩, .string ⟨#[]⟩] 31) ⟨(((HX1.out.setCell (by have := HGEB2.out; first | omega | (simp only []; omega) | (simp; omega)) _).setCell (by have := HGEB2.out; first | omega | (simp only []; omega) | (simp; omega)) _).setCell (by have := HGEB2.out; first | omega | (simp only []; omega) | (simp; omega)) _), (((HB2_1.out.set 0 (.string ⟨#[]⟩)).set 1 (.string ⟨#[]⟩)).set 2 (.string ⟨#[]⟩))⟩ ?_
  rintro w2 ⟨e2, bB2_2⟩
  have HX2 := Lib.hid e2; have HB2_2 := Lib.hid bB2_2
  clear e2 bB2_2 c2_0 f2_0 c2_1 f2_1 c2_2 f2_2
  have gB2_0 := HB2_2.out.cell 0 rfl
  have gB2_1 := HB2_2.out.cell 1 rfl
  have gB2_2 := HB2_2.out.cell 2 rfl
  refine bodyPost_ret (v := .tuple #[.agg #[.string ⟨#[]⟩, .string ⟨#[]⟩, .string ⟨#[]⟩], .int .i64 2]) (by simp [results, Tryz.results30, go_sem, gB2_0, gB2_1, gB2_2]) rfl ⟨rfl, HX2.out⟩

set_option maxRecDepth 100000 in
set_option maxHeartbeats 2000000 in
theorem rabout_0 (t : Q4) (w : World) (g : Gd w) (hq : QErr t 0) : Calls Tryz.prog 31 #[.agg #[.int .i64 t.w, .int .i64 t.x, .int .i64 t.y, .int .i64 t.z], .agg #[.string ⟨#[]⟩, .string ⟨#[]⟩, .string ⟨#[]⟩]] w (Ret w (.tuple #[.agg #[.string ⟨#[]⟩, .string ⟨#[]⟩, .string ⟨#[]⟩, .string ⟨#[]⟩, .string ⟨#[]⟩, .string ⟨#[]⟩, .string ⟨#[]⟩, .string ⟨#[]⟩, .string ⟨#[]⟩, .string ⟨#[]⟩, .string ⟨#[]⟩, .string ⟨#[]⟩], .int .i64 2])) := by
  have HE := Lib.hid hq
  have HG := Lib.hid g
  clear hq g
  go_enter Tryz.func31, Tryz.ntmps31
  go_wp2_with fail
  refine (rboth_0 t _ (HG.out.ext ((((Ext.refl w).alloc _).alloc _).alloc _)) HE.out).mono ?_; rintro e w1 ⟨rfl, e1⟩
  have HX1 : Hid (Ext w w1) := Lib.hid (((((Ext.refl w).alloc _).alloc _).alloc _).trans e1)
  have HB2_1 : Hid (Blk w1 (w.heap.size + 1 + 1) #[.string ⟨#[]⟩, .string ⟨#[]⟩, .string ⟨#[]⟩, .string ⟨#[]⟩, .string ⟨#[]⟩, .string ⟨#[]⟩, .string ⟨#[]⟩, .string ⟨#[]⟩, .string ⟨#[]⟩, .string ⟨#[]⟩, .string ⟨#[]⟩, .string ⟨#[]⟩] 66) := Lib.hid (Blk.ext (Blk.new' (w := _) (cs := #[.string ⟨#[]⟩, .string ⟨#[]⟩, .string ⟨#[]⟩, .string ⟨#[]⟩, .string ⟨#[]⟩, .string ⟨#[]⟩, .string ⟨#[]⟩, .string ⟨#[]⟩, .string ⟨#[]⟩, .string ⟨#[]⟩, .string ⟨#[]⟩, .string ⟨#[]⟩]) (t := 66) (by first | rfl | (simp only [World.size_alloc]; done) | (simp only [World.size_alloc]; omega) | simp)) e1)
  have HGEB2 : Hid (w.heap.size ≤ w.heap.size + 1 + 1) := Lib.hid (by first | omega | (simp only []; omega) | (simp; omega))
  clear e1
  have c2_0 := HB2_1.out.cell 0 rfl
  have f2_0 := HB2_1.out.free 0
  have c2_1 := HB2_1.out.cell 1 rfl
  have f2_1 := HB2_1.out.free 1
  have c2_2 := HB2_1.out.cell 2 rfl
  have f2_2 := HB2_1.out.free 2
  have c2_3 := HB2_1.out.cell 3 rfl
  have f2_3 := HB2_1.out.free 3
  have c2_4 := HB2_1.out.cell 4 rfl
  have f2_4 := HB2_1.out.free 4
  have c2_5 := HB2_1.out.cell 5 rfl
  have f2_5 := HB2_1.out.free 5
  have c2_6 := HB2_1.out.cell 6 rfl
  have f2_6 := HB2_1.out.free 6
  have c2_7 := HB2_1.out.cell 7 rfl
  have f2_7 := HB2_1.out.free 7
  have c2_8 := HB2_1.out.cell 8 rfl
  have f2_8 := HB2_1.out.free 8
  have c2_9 := HB2_1.out.cell 9 rfl
  have f2_9 := HB2_1.out.free 9
  have c2_10 := HB2_1.out.cell 10 rfl
  have f2_10 := HB2_1.out.free 10
  have c2_11 := HB2_1.out.cell 11 rfl
  have f2_11 := HB2_1.out.free 11
  go_wp2_with fail
  refine wp_name (fun W => Ext w W ∧ Blk W (w.heap.size + 1 + 1) #[.string ⟨#[]⟩, .string ⟨#[]⟩, .string ⟨#[]⟩, .string ⟨#[]⟩, .string ⟨#[]⟩, .string ⟨#[]⟩, .string ⟨#[]⟩, .string ⟨#[]⟩, .string ⟨#[]⟩, .string ⟨#[]⟩, .string ⟨#[]⟩, .string ⟨#[]⟩] 66) ⟨((((((((((((HX1.out.setCell (by have := HGEB2.out; first | omega | (simp only []; omega) | (simp; omega)) _).setCell (by have := HGEB2.out; first | omega | (simp only []; omega) | (simp; omega)) _).setCell (by have := HGEB2.out; first | omega | (simp only []; omega) | (simp; omega)) _).setCell (by have := HGEB2.out; first | omega | (simp only []; omega) | (simp; omega)) _).setCell (by have := HGEB2.out; first | omega | (simp only []; omega) | (simp; omega)) _).setCell (by have := HGEB2.out; first | omega | (simp only []; omega) | (simp; omega)) _).setCell (by have := HGEB2.out; first | omega | (simp only []; omega) | (simp; omega)) _).setCell (by have := HGEB2.out; first | omega | (simp only []; omega) | (simp; omega)) _).setCell (by have := HGEB2.out; first | omega | (simp only []; omega) | (simp; omega)) _).setCell (by have := HGEB2.out; first | omega | (simp only []; omega) | (simp; omega)) _).setCell (by have := HGEB2.out; first | omega | (simp only []; omega) | (simp; omega)) _).setCell (by have := HGEB2.out; first | omega | (simp only []; omega) | (simp; omega)) _), ((((((((((((HB2_1.out.set 0 (.string ⟨#[]⟩)).set 1 (.string ⟨#[]⟩)).set 2 (.string ⟨#[]⟩)).set 3 (.string ⟨#[]⟩)).set 4 (.string ⟨#[]⟩)).set 5 (.string ⟨#[]⟩)).set 6 (.string ⟨#[]⟩)).set 7 (.string ⟨#[]⟩)).set 8 (.string ⟨#[]⟩)).set 9 (.string ⟨#[]⟩)).set 10 (.string ⟨#[]⟩)).set 11 (.string ⟨#[]⟩))⟩ ?_
  rintro w2 ⟨e2, bB2_2⟩
  have HX2 := Lib.hid e2; have HB2_2 := Lib.hid bB2_2
  clear e2 bB2_2 c2_0 f2_0 c2_1 f2_1 c2_2 f2_2 c2_3 f2_3 c2_4 f2_4 c2_5 f2_5 c2_6 f2_6 c2_7 f2_7 c2_8 f2_8 c2_9 f2_9 c2_10 f2_10 c2_11 f2_11
  have gB2_0 := HB2_2.out.cell 0 rfl
  have gB2_1 := HB2_2.out.cell 1 rfl
  have gB2_2 := HB2_2.out.cell 2 rfl
  have gB2_3 := HB2_2.out.cell 3 rfl
  have gB2_4 := HB2_2.out.cell 4 rfl
  have gB2_5 := HB2_2.out.cell 5 rfl
  have gB2_6 := HB2_2.out.cell 6 rfl
  have gB2_7 := HB2_2.out.cell 7 rfl
  have gB2_8 := HB2_2.out.cell 8 rfl
  have gB2_9 := HB2_2.out.cell 9 rfl
  have gB2_10 := HB2_2.out.cell 10 rfl
  have gB2_11 := HB2_2.out.cell 11 rfl
  refine bodyPost_ret (v := .tuple #[.agg #[.string ⟨#[]⟩, .string ⟨#[]⟩, .string ⟨#[]⟩, .string ⟨#[]⟩, .string ⟨#[]⟩, .string ⟨#[]⟩, .string ⟨#[]⟩, .string ⟨#[]⟩, .string ⟨#[]⟩, .string ⟨#[]⟩, .string ⟨#[]⟩, .string ⟨#[]⟩], .int .i64 2]) (by simp [results, Tryz.results31, go_sem, gB2_0, gB2_1, gB2_2, gB2_3, gB2_4, gB2_5, gB2_6, gB2_7, gB2_8, gB2_9, gB2_10, gB2_11]) rfl ⟨rfl, HX2.out⟩

set_option maxRecDepth 100000 in
set_option maxHeartbeats 16000000 in
theorem chks17_a (a b : Q4) (e : Int) (w : World) (g : Gd w) (hea : QErr a e) (he : e ≠ 0) : Calls Tryz.prog 10 #[.agg #[.int .i64 a.w, .int .i64 a.x, .int .i64 a.y, .int .i64 a.z], .agg #[.int .i64 b.w, .int .i64 b.x, .int .i64 b.y, .int .i64 b.z]] w (Ret w (.bool true)) := by
  have HEA := Lib.hid hea
  have HNE := Lib.hid he
  have HG := Lib.hid g
  clear hea he g
  have he_n : (e != 0) = true := bne_iff_ne.2 HNE.out
  have he_e : (e == 0) = false := beq_eq_false_iff_ne.2 HNE.out
  have eqa0 := eq4 0 0 0 0 0 0 0 0
  have eqc1 : ∀ W, (Op.equalIn 10000 59 (.agg #[.string ⟨#[]⟩, .string ⟨#[]⟩, .string ⟨#[]⟩, .string ⟨#[]⟩, .string ⟨#[]⟩, .string ⟨#[]⟩, .string ⟨#[]⟩, .string ⟨#[]⟩, .string ⟨#[]⟩]) (.agg #[.string ⟨#[]⟩, .string ⟨#[]⟩, .string ⟨#[]⟩, .string ⟨#[]⟩, .string ⟨#[]⟩, .string ⟨#[]⟩, .string ⟨#[]⟩, .string ⟨#[]⟩, .string ⟨#[]⟩])).run Tryz.prog W = .ok true W := fun W => by kernel_rfl
  have eqc2 : ∀ W, (Op.equalIn 10000 66 (.agg #[.string ⟨#[]⟩, .string ⟨#[]⟩, .string ⟨#[]⟩, .string ⟨#[]⟩, .string ⟨#[]⟩, .string ⟨#[]⟩, .string ⟨#[]⟩, .string ⟨#[]⟩, .string ⟨#[]⟩, .string ⟨#[]⟩, .string ⟨#[]⟩, .string ⟨#[]⟩]) (.agg #[.string ⟨#[]⟩, .string ⟨#[]⟩, .string ⟨#[]⟩, .string ⟨#[]⟩, .string ⟨#[]⟩, .string ⟨#[]⟩, .string ⟨#[]⟩, .string ⟨#[]⟩, .string ⟨#[]⟩, .string ⟨#[]⟩, .string ⟨#[]⟩, .string ⟨#[]⟩])).run Tryz.prog W = .ok true W := fun W => by kernel_rfl
  go_enter Tryz.func10, Tryz.ntmps10
  go_wp2_with fail
  refine (known17_c _ (HG.out.ext (((Ext.refl w).alloc _).alloc _))).mono ?_; rintro e w1 ⟨rfl, e1⟩
  have HX1 : Hid (Ext w w1) := Lib.hid ((((Ext.refl w).alloc _).alloc _).trans e1)
  have HB0_1 : Hid (Blk w1 (w.heap.size) #[.int .i64 a.w, .int .i64 a.x, .int .i64 a.y, .int .i64 a.z] 22) := Lib.hid (Blk.ext ((Blk.new' (w := _) (cs := #[.int .i64 a.w, .int .i64 a.x, .int .i64 a.y, .int .i64 a.z]) (t := 22) (by first | rfl | (simp only [World.size_alloc]; done) | (simp only [World.size_alloc]; omega) | simp)).alloc _) e1)
  have HB1_1 : Hid (Blk w1 (w.heap.size + 1) #[.int .i64 b.w, .int .i64 b.x, .int .i64 b.y, .int .i64 b.z] 22) := Lib.hid (Blk.ext (Blk.new' (w := _) (cs := #[.int .i64 b.w, .int .i64 b.x, .int .i64 b.y, .int .i64 b.z]) (t := 22) (by first | rfl | (simp only [World.size_alloc]; done) | (simp only [World.size_alloc]; omega) | simp)) e1)
  have HGEB0 : Hid (w.heap.size ≤ w.heap.size) := Lib.hid (by first | omega | (simp only []; omega) | (simp; omega))
  have HGEB1 : Hid (w.heap.size ≤ w.heap.size + 1) := Lib.hid (by first | omega | (simp only []; omega) | (simp; omega))
  clear e1
  have c0_0 := HB0_1.out.cell 0 rfl
  have c0_1 := HB0_1.out.cell 1 rfl
  have c0_2 := HB0_1.out.cell 2 rfl
  have c0_3 := HB0_1.out.cell 3 rfl
  go_wp2_with fail
  refine (lchk_l _ (HG.out.ext HX1.out) HEA.out).mono ?_; rintro e w2 ⟨rfl, e2⟩
  have HX2 : Hid (Ext w w2) := Lib.hid (HX1.out.trans e2)
  have HB0_2 := Lib.hid (Blk.ext HB0_1.out e2)
  have HB1_2 := Lib.hid (Blk.ext HB1_1.out e2)
  clear e2 c0_0 c0_1 c0_2 c0_3
  have c0_0 := HB0_2.out.cell 0 rfl
  have c0_1 := HB0_2.out.cell 1 rfl
  have c0_2 := HB0_2.out.cell 2 rfl
  have c0_3 := HB0_2.out.cell 3 rfl
  go_wp2_with fail
  refine (rchk_l _ (HG.out.ext HX2.out) HEA.out).mono ?_; rintro e w3 ⟨rfl, e3⟩
  have HX3 : Hid (Ext w w3) := Lib.hid (HX2.out.trans e3)
  have HB0_3 := Lib.hid (Blk.ext HB0_2.out e3)
  have HB1_3 := Lib.hid (Blk.ext HB1_2.out e3)
  clear e3 c0_0 c0_1 c0_2 c0_3
  go_upto_region 8 with fail
  refine wp_name (fun W => Ext w W ∧ Blk W (w.heap.size) #[.int .i64 a.w, .int .i64 a.x, .int .i64 a.y, .int .i64 a.z] 22 ∧ Blk W (w.heap.size + 1) #[.int .i64 b.w, .int .i64 b.x, .int .i64 b.y, .int .i64 b.z] 22 ∧ Blk W (w3.heap.size) #[.int .i64 0, .int .i64 0, .int .i64 0, .int .i64 0] 22) ⟨(HX3.out.alloc _), (HB0_3.out.alloc _), (HB1_3.out.alloc _), (Blk.new' (w := _) (cs := #[.int .i64 0, .int .i64 0, .int .i64 0, .int .i64 0]) (t := 22) (by first | rfl | (simp only [World.size_alloc]; done) | (simp only [World.size_alloc]; omega) | simp))⟩ ?_
  rintro w4 ⟨e4, bB0_4, bB1_4, bB2_4⟩
  have HX4 := Lib.hid e4; have HB0_4 := Lib.hid bB0_4; have HB1_4 := Lib.hid bB1_4; have HB2_4 := Lib.hid bB2_4
  have HGEB2 : Hid (w.heap.size ≤ w3.heap.size) := Lib.hid (by have := HX3.out.size; first | omega | (simp only []; omega) | (simp; omega))
  clear e4 bB0_4 bB1_4 bB2_4
  have c0_0 := HB0_4.out.cell 0 rfl
  have c0_1 := HB0_4.out.cell 1 rfl
  have c0_2 := HB0_4.out.cell 2 rfl
  have c0_3 := HB0_4.out.cell 3 rfl
  go_wp2_with fail
  refine (rpri_e a e _ (HG.out.ext HX4.out) HEA.out HNE.out).mono ?_; rintro e w5 ⟨rfl, e5⟩
  have HX5 : Hid (Ext w w5) := Lib.hid (HX4.out.trans e5)
  have HB0_5 := Lib.hid (Blk.ext HB0_4.out e5)
  have HB1_5 := Lib.hid (Blk.ext HB1_4.out e5)
  have HB2_5 := Lib.hid (Blk.ext HB2_4.out e5)
  clear e5 c0_0 c0_1 c0_2 c0_3
  go_upto_region 9 with fail
  refine wp_name (fun W => Ext w W ∧ Blk W (w.heap.size) #[.int .i64 a.w, .int .i64 a.x, .int .i64 a.y, .int .i64 a.z] 22 ∧ Blk W (w.heap.size + 1) #[.int .i64 b.w, .int .i64 b.x, .int .i64 b.y, .int .i64 b.z] 22 ∧ Blk W (w3.heap.size) #[.int .i64 0, .int .i64 0, .int .i64 0, .int .i64 0] 22 ∧ Blk W (w5.heap.size) #[.int .i64 0, .int .i64 0, .int .i64 0, .int .i64 0] 22) ⟨(HX5.out.alloc _), (HB0_5.out.alloc _), (HB1_5.out.alloc _), (HB2_5.out.alloc _), (Blk.new' (w := _) (cs := #[.int .i64 0, .int .i64 0, .int .i64 0, .int .i64 0]) (t := 22) (by first | rfl | (simp only [World.size_alloc]; done) | (simp only [World.size_alloc]; omega) | simp))⟩ ?_
  rintro w6 ⟨e6, bB0_6, bB1_6, bB2_6, bB3_6⟩
  have HX6 := Lib.hid e6; have HB0_6 := Lib.hid bB0_6; have HB1_6 := Lib.hid bB1_6; have HB2_6 := Lib.hid bB2_6; have HB3_6 := Lib.hid bB3_6
  have HGEB3 : Hid (w.heap.size ≤ w5.heap.size) := Lib.hid (by have := HX5.out.size; first | omega | (simp only []; omega) | (simp; omega))
  clear e6 bB0_6 bB1_6 bB2_6 bB3_6
  have c0_0 := HB0_6.out.cell 0 rfl
  have c0_1 := HB0_6.out.cell 1 rfl
  have c0_2 := HB0_6.out.cell 2 rfl
  have c0_3 := HB0_6.out.cell 3 rfl
  go_wp2_with fail
  refine (rinv_e a e _ (HG.out.ext HX6.out) HEA.out HNE.out).mono ?_; rintro e w7 ⟨rfl, e7⟩
  have HX7 : Hid (Ext w w7) := Lib.hid (HX6.out.trans e7)
  have HB0_7 := Lib.hid (Blk.ext HB0_6.out e7)
  have HB1_7 := Lib.hid (Blk.ext HB1_6.out e7)
  have HB2_7 := Lib.hid (Blk.ext HB2_6.out e7)
  have HB3_7 := Lib.hid (Blk.ext HB3_6.out e7)
  clear e7 c0_0 c0_1 c0_2 c0_3
  go_upto_region 10 with fail
  refine wp_name (fun W => Ext w W ∧ Blk W (w.heap.size) #[.int .i64 a.w, .int .i64 a.x, .int .i64 a.y, .int .i64 a.z] 22 ∧ Blk W (w.heap.size + 1) #[.int .i64 b.w, .int .i64 b.x, .int .i64 b.y, .int .i64 b.z] 22 ∧ Blk W (w3.heap.size) #[.int .i64 0, .int .i64 0, .int .i64 0, .int .i64 0] 22 ∧ Blk W (w5.heap.size) #[.int .i64 0, .int .i64 0, .int .i64 0, .int .i64 0] 22 ∧ Blk W (w7.heap.size) #[.int .i64 0, .int .i64 0, .int .i64 0, .int .i64 0] 22) ⟨(HX7.out.alloc _), (HB0_7.out.alloc _), (HB1_7.out.alloc _), (HB2_7.out.alloc _), (HB3_7.out.alloc _), (Blk.new' (w := _) (cs := #[.int .i64 0, .int .i64 0, .int .i64 0, .int .i64 0]) (t := 22) (by first | rfl | (simp only [World.size_alloc]; done) | (simp only [World.size_alloc]; omega) | simp))⟩ ?_
  rintro w8 ⟨e8, bB0_8, bB1_8, bB2_8, bB3_8, bB4_8⟩
  have HX8 := Lib.hid e8; have HB0_8 := Lib.hid bB0_8; have HB1_8 := Lib.hid bB1_8; have HB2_8 := Lib.hid bB2_8; have HB3_8 := Lib.hid bB3_8; have HB4_8 := Lib.hid bB4_8
  have HGEB4 : Hid (w.heap.size ≤ w7.heap.size) := Lib.hid (by have := HX7.out.size; first | omega | (simp only []; omega) | (simp; omega))
  clear e8 bB0_8 bB1_8 bB2_8 bB3_8 bB4_8
  have c0_0 := HB0_8.out.cell 0 rfl
  have c0_1 := HB0_8.out.cell 1 rfl
  have c0_2 := HB0_8.out.cell 2 rfl
  have c0_3 := HB0_8.out.cell 3 rfl
  go_wp2_with fail
  refine (rord_e a e _ (HG.out.ext HX8.out) HEA.out HNE.out).mono ?_; rintro e w9 ⟨rfl, e9⟩
  have HX9 : Hid (Ext w w9) := Lib.hid (HX8.out.trans e9)
  have HB0_9 := Lib.hid (Blk.ext HB0_8.out e9)
  have HB1_9 := Lib.hid (Blk.ext HB1_8.out e9)
  have HB2_9 := Lib.hid (Blk.ext HB2_8.out e9)
  have HB3_9 := Lib.hid (Blk.ext HB3_8.out e9)
  have HB4_9 := Lib.hid (Blk.ext HB4_8.out e9)
  clear e9 c0_0 c0_1 c0_2 c0_3
  have c0_0 := HB0_9.out.cell 0 rfl
  have c0_1 := HB0_9.out.cell 1 rfl
  have c0_2 := HB0_9.out.cell 2 rfl
  have c0_3 := HB0_9.out.cell 3 rfl
  go_wp2_with fail
  refine (rmat_e a e _ (HG.out.ext HX9.out) HEA.out HNE.out).mono ?_; rintro e w10 ⟨rfl, e10⟩
  have HX10 : Hid (Ext w w10) := Lib.hid (HX9.out.trans e10)
  have HB0_10 := Lib.hid (Blk.ext HB0_9.out e10)
  have HB1_10 := Lib.hid (Blk.ext HB1_9.out e10)
  have HB2_10 := Lib.hid (Blk.ext HB2_9.out e10)
  have HB3_10 := Lib.hid (Blk.ext HB3_9.out e10)
  have HB4_10 := Lib.hid (Blk.ext HB4_9.out e10)
  clear e10 c0_0 c0_1 c0_2 c0_3
  go_upto_region 12 with fail
  refine wp_name (fun W => Ext w W ∧ Blk W (w.heap.size) #[.int .i64 a.w, .int .i64 a.x, .int .i64 a.y, .int .i64 a.z] 22 ∧ Blk W (w.heap.size + 1) #[.int .i64 b.w, .int .i64 b.x, .int .i64 b.y, .int .i64 b.z] 22 ∧ Blk W (w3.heap.size) #[.int .i64 0, .int .i64 0, .int .i64 0, .int .i64 0] 22 ∧ Blk W (w5.heap.size) #[.int .i64 0, .int .i64 0, .int .i64 0, .int .i64 0] 22 ∧ Blk W (w7.heap.size) #[.int .i64 0, .int .i64 0, .int .i64 0, .int .i64 0] 22 ∧ Blk W (w10.heap.size) #[.string ⟨#[]⟩, .string ⟨#[]⟩, .string ⟨#[]⟩, .string ⟨#[]⟩, .string ⟨#[]⟩, .string ⟨#[]⟩, .string ⟨#[]⟩, .string ⟨#[]⟩, .string ⟨#[]⟩] 59) ⟨(HX10.out.alloc _), (HB0_10.out.alloc _), (HB1_10.out.alloc _), (HB2_10.out.alloc _), (HB3_10.out.alloc _), (HB4_10.out.alloc _), (Blk.new' (w := _) (cs := #[.string ⟨#[]⟩, .string ⟨#[]⟩, .string ⟨#[]⟩, .string ⟨#[]⟩, .string ⟨#[]⟩, .string ⟨#[]⟩, .string ⟨#[]⟩, .string ⟨#[]⟩, .string ⟨#[]⟩]) (t := 59) (by first | rfl | (simp only [World.size_alloc]; done) | (simp only [World.size_alloc]; omega) | simp))⟩ ?_
  rintro w11 ⟨e11, bB0_11, bB1_11, bB2_11, bB3_11, bB4_11, bB5_11⟩
  have HX11 := Lib.hid e11; have HB0_11 := Lib.hid bB0_11; have HB1_11 := Lib.hid bB1_11; have HB2_11 := Lib.hid bB2_11; have HB3_11 := Lib.hid bB3_11; have HB4_11 := Lib.hid bB4_11; have HB5_11 := Lib.hid bB5_11
  have HGEB5 : Hid (w.heap.size ≤ w10.heap.size) := Lib.hid (by have := HX10.out.size; first | omega | (simp only []; omega) | (simp; omega))
  clear e11 bB0_11 bB1_11 bB2_11 bB3_11 bB4_11 bB5_11
  have c0_0 := HB0_11.out.cell 0 rfl
  have c0_1 := HB0_11.out.cell 1 rfl
  have c0_2 := HB0_11.out.cell 2 rfl
  have c0_3 := HB0_11.out.cell 3 rfl
  go_wp2_with fail
  refine (rapp_e a e _ (HG.out.ext HX11.out) HEA.out HNE.out).mono ?_; rintro e w12 ⟨rfl, e12⟩
  have HX12 : Hid (Ext w w12) := Lib.hid (HX11.out.trans e12)
  have HB0_12 := Lib.hid (Blk.ext HB0_11.out e12)
  have HB1_12 := Lib.hid (Blk.ext HB1_11.out e12)
  have HB2_12 := Lib.hid (Blk.ext HB2_11.out e12)
  have HB3_12 := Lib.hid (Blk.ext HB3_11.out e12)
  have HB4_12 := Lib.hid (Blk.ext HB4_11.out e12)
  have HB5_12 := Lib.hid (Blk.ext HB5_11.out e12)
  clear e12 c0_0 c0_1 c0_2 c0_3
  go_upto_region 13 with fail
  refine wp_name (fun W => Ext w W ∧ Blk W (w.heap.size) #[.int .i64 a.w, .int .i64 a.x, .int .i64 a.y, .int .i64 a.z] 22 ∧ Blk W (w.heap.size + 1) #[.int .i64 b.w, .int .i64 b.x, .int .i64 b.y, .int .i64 b.z] 22 ∧ Blk W (w3.heap.size) #[.int .i64 0, .int .i64 0, .int .i64 0, .int .i64 0] 22 ∧ Blk W (w5.heap.size) #[.int .i64 0, .int .i64 0, .int .i64 0, .int .i64 0] 22 ∧ Blk W (w7.heap.size) #[.int .i64 0, .int .i64 0, .int .i64 0, .int .i64 0] 22 ∧ Blk W (w10.heap.size) #[.string ⟨#[]⟩, .string ⟨#[]⟩, .string ⟨#[]⟩, .string ⟨#[]⟩, .string ⟨#[]⟩, .string ⟨#[]⟩, .string ⟨#[]⟩, .string ⟨#[]⟩, .string ⟨#[]⟩] 59 ∧ Blk W (w12.heap.size) #[.string ⟨#[]⟩, .string ⟨#[]⟩, .string ⟨#[]⟩] 31) ⟨(HX12.out.alloc _), (HB0_12.out.alloc _), (HB1_12.out.alloc _), (HB2_12.out.alloc _), (HB3_12.out.alloc _), (HB4_12.out.alloc _), (HB5_12.out.alloc _), (Blk.new' (w := _) (cs := #[.string ⟨#[]⟩, .string ⟨#[]⟩, .string ⟨#[]⟩]) (t := 31) (by first | rfl | (simp only [World.size_alloc]; done) | (simp only [World.size_alloc]; omega) | simp))⟩ ?_
  rintro w13 ⟨e13, bB0_13, bB1_13, bB2_13, bB3_13, bB4_13, bB5_13, bB6_13⟩
  have HX13 := Lib.hid e13; have HB0_13 := Lib.hid bB0_13; have HB1_13 := Lib.hid bB1_13; have HB2_13 := Lib.hid bB2_13; have HB3_13 := Lib.hid bB3_13; have HB4_13 := Lib.hid bB4_13; have HB5_13 := Lib.hid bB5_13; have HB6_13 := Lib.hid bB6_13
  have HGEB6 : Hid (w.heap.size ≤ w12.heap.size) := Lib.hid (by have := HX12.out.size; first | omega | (simp only []; omega) | (simp; omega))
  clear e13 bB0_13 bB1_13 bB2_13 bB3_13 bB4_13 bB5_13 bB6_13
  have c0_0 := HB0_13.out.cell 0 rfl
  have c0_1 := HB0_13.out.cell 1 rfl
  have c0_2 := HB0_13.out.cell 2 rfl
  have c0_3 := HB0_13.out.cell 3 rfl
  go_wp2_with fail
  refine (rabout_e a e _ (HG.out.ext HX13.out) HEA.out HNE.out).mono ?_; rintro e w14 ⟨rfl, e14⟩
  have HX14 : Hid (Ext w w14) := Lib.hid (HX13.out.trans e14)
  have HB0_14 := Lib.hid (Blk.ext HB0_13.out e14)
  have HB1_14 := Lib.hid (Blk.ext HB1_13.out e14)
  have HB2_14 := Lib.hid (Blk.ext HB2_13.out e14)
  have HB3_14 := Lib.hid (Blk.ext HB3_13.out e14)
  have HB4_14 := Lib.hid (Blk.ext HB4_13.out e14)
  have HB5_14 := Lib.hid (Blk.ext HB5_13.out e14)
  have HB6_14 := Lib.hid (Blk.ext HB6_13.out e14)
  clear e14 c0_0 c0_1 c0_2 c0_3
  go_upto_region 14 with fail
  refine wp_name (fun W => Ext w W ∧ Blk W (w.heap.size) #[.int .i64 a.w, .int .i64 a.x, .int .i64 a.y, .int .i64 a.z] 22 ∧ Blk W (w.heap.size + 1) #[.int .i64 b.w, .int .i64 b.x, .int .i64 b.y, .int .i64 b.z] 22 ∧ Blk W (w3.heap.size) #[.int .i64 0, .int .i64 0, .int .i64 0, .int .i64 0] 22 ∧ Blk W (w5.heap.size) #[.int .i64 0, .int .i64 0, .int .i64 0, .int .i64 0] 22 ∧ Blk W (w7.heap.size) #[.int .i64 0, .int .i64 0, .int .i64 0, .int .i64 0] 22 ∧ Blk W (w10.heap.size) #[.string ⟨#[]⟩, .string ⟨#[]⟩, .string ⟨#[]⟩, .string ⟨#[]⟩, .string ⟨#[]⟩, .string ⟨#[]⟩, .string ⟨#[]⟩, .string ⟨#[]⟩, .string ⟨#[]⟩] 59 ∧ Blk W (w12.heap.size) #[.string ⟨#[]⟩, .string ⟨#[]⟩, .string ⟨#[]⟩] 31 ∧ Blk W (w14.heap.size) #[.string ⟨#[]⟩, .string ⟨#[]⟩, .string ⟨#[]⟩, .string ⟨#[]⟩, .string ⟨#[]⟩, .string ⟨#[]⟩, .string ⟨#[]⟩, .string ⟨#[]⟩, .string ⟨#[]⟩, .string ⟨#[]⟩, .string ⟨#[]⟩, .string ⟨#[]⟩] 66) ⟨(HX14.out.alloc _), (HB0_14.out.alloc _), (HB1_14.out.alloc _), (HB2_14.out.alloc _), (HB3_14.out.alloc _), (HB4_14.out.alloc _), (HB5_14.out.alloc _), (HB6_14.out.alloc _), (Blk.new' (w := _) (cs := #[.string ⟨#[]⟩, .string ⟨#[]⟩, .string ⟨#[]⟩, .string ⟨#[]⟩, .string ⟨#[]⟩, .string ⟨#[]⟩, .string ⟨#[]⟩, .string ⟨#[]⟩, .string ⟨#[]⟩, .string ⟨#[]⟩, .string ⟨#[]⟩, .string ⟨#[]⟩]) (t := 66) (by first | rfl | (simp only [World.size_alloc]; done) | (simp only [World.size_alloc]; omega) | simp))⟩ ?_
  rintro w15 ⟨e15, bB0_15, bB1_15, bB2_15, bB3_15, bB4_15, bB5_15, bB6_15, bB7_15⟩
  have HX15 := Lib.hid e15; have HB0_15 := Lib.hid bB0_15; have HB1_15 := Lib.hid bB1_15; have HB2_15 := Lib.hid bB2_15; have HB3_15 := Lib.hid bB3_15; have HB4_15 := Lib.hid bB4_15; have HB5_15 := Lib.hid bB5_15; have HB6_15 := Lib.hid bB6_15; have HB7_15 := Lib.hid bB7_15
  have HGEB7 : Hid (w.heap.size ≤ w14.heap.size) := Lib.hid (by have := HX14.out.size; first | omega | (simp only []; omega) | (simp; omega))
  clear e15 bB0_15 bB1_15 bB2_15 bB3_15 bB4_15 bB5_15 bB6_15 bB7_15
  have c0_0 := HB0_15.out.cell 0 rfl
  have c0_1 := HB0_15.out.cell 1 rfl
  have c0_2 := HB0_15.out.cell 2 rfl
  have c0_3 := HB0_15.out.cell 3 rfl
  go_wp2_with fail
  refine (raxis_e a e _ (HG.out.ext HX15.out) HEA.out HNE.out).mono ?_; rintro e w16 ⟨rfl, e16⟩
  have HX16 : Hid (Ext w w16) := Lib.hid (HX15.out.trans e16)
  have HB0_16 := Lib.hid (Blk.ext HB0_15.out e16)
  have HB1_16 := Lib.hid (Blk.ext HB1_15.out e16)
  have HB2_16 := Lib.hid (Blk.ext HB2_15.out e16)
  have HB3_16 := Lib.hid (Blk.ext HB3_15.out e16)
  have HB4_16 := Lib.hid (Blk.ext HB4_15.out e16)
  have HB5_16 := Lib.hid (Blk.ext HB5_15.out e16)
  have HB6_16 := Lib.hid (Blk.ext HB6_15.out e16)
  have HB7_16 := Lib.hid (Blk.ext HB7_15.out e16)
  clear e16 c0_0 c0_1 c0_2 c0_3
  go_upto_region 15 with fail
  refine wp_name (fun W => Ext w W ∧ Blk W (w.heap.size) #[.int .i64 a.w, .int .i64 a.x, .int .i64 a.y, .int .i64 a.z] 22 ∧ Blk W (w.heap.size + 1) #[.int .i64 b.w, .int .i64 b.x, .int .i64 b.y, .int .i64 b.z] 22 ∧ Blk W (w3.heap.size) #[.int .i64 0, .int .i64 0, .int .i64 0, .int .i64 0] 22 ∧ Blk W (w5.heap.size) #[.int .i64 0, .int .i64 0, .int .i64 0, .int .i64 0] 22 ∧ Blk W (w7.heap.size) #[.int .i64 0, .int .i64 0, .int .i64 0, .int .i64 0] 22 ∧ Blk W (w10.heap.size) #[.string ⟨#[]⟩, .string ⟨#[]⟩, .string ⟨#[]⟩, .string ⟨#[]⟩, .string ⟨#[]⟩, .string ⟨#[]⟩, .string ⟨#[]⟩, .string ⟨#[]⟩, .string ⟨#[]⟩] 59 ∧ Blk W (w12.heap.size) #[.string ⟨#[]⟩, .string ⟨#[]⟩, .string ⟨#[]⟩] 31 ∧ Blk W (w14.heap.size) #[.string ⟨#[]⟩, .string ⟨#[]⟩, .string ⟨#[]⟩, .string ⟨#[]⟩, .string ⟨#[]⟩, .string ⟨#[]⟩, .string ⟨#[]⟩, .string ⟨#[]⟩, .string ⟨#[]⟩, .string ⟨#[]⟩, .string ⟨#[]⟩, .string ⟨#[]⟩] 66 ∧ Blk W (w16.heap.size) #[.string ⟨#[]⟩, .string ⟨#[]⟩, .string ⟨#[]⟩] 31) ⟨(HX16.out.alloc _), (HB0_16.out.alloc _), (HB1_16.out.alloc _), (HB2_16.out.alloc _), (HB3_16.out.alloc _), (HB4_16.out.alloc _), (HB5_16.out.alloc _), (HB6_16.out.alloc _), (HB7_16.out.alloc _), (Blk.new' (w := _) (cs := #[.string ⟨#[]⟩, .string ⟨#[]⟩, .string ⟨#[]⟩]) (t := 31) (by first | rfl | (simp only [World.size_alloc]; done) | (simp only [World.size_alloc]; omega) | simp))⟩ ?_
  rintro w17 ⟨e17, bB0_17, bB1_17, bB2_17, bB3_17, bB4_17, bB5_17, bB6_17, bB7_17, bB8_17⟩
  have HX17 := Lib.hid e17; have HB0_17 := Lib.hid bB0_17; have HB1_17 := Lib.hid bB1_17; have HB2_17 := Lib.hid bB2_17; have HB3_17 := Lib.hid bB3_17; have HB4_17 := Lib.hid bB4_17; have HB5_17 := Lib.hid bB5_17; have HB6_17 := Lib.hid bB6_17; have HB7_17 := Lib.hid bB7_17; have HB8_17 := Lib.hid bB8_17
  have HGEB8 : Hid (w.heap.size ≤ w16.heap.size) := Lib.hid (by have := HX16.out.size; first | omega | (simp only []; omega) | (simp; omega))
  clear e17 bB0_17 bB1_17 bB2_17 bB3_17 bB4_17 bB5_17 bB6_17 bB7_17 bB8_17
  have c0_0 := HB0_17.out.cell 0 rfl
  have c0_1 := HB0_17.out.cell 1 rfl
  have c0_2 := HB0_17.out.cell 2 rfl
  have c0_3 := HB0_17.out.cell 3 rfl
  go_wp2_with fail
  refine (rcos_e a e _ (HG.out.ext HX17.out) HEA.out HNE.out).mono ?_; rintro e w18 ⟨rfl, e18⟩
  have HX18 : Hid (Ext w w18) := Lib.hid (HX17.out.trans e18)
  have HB0_18 := Lib.hid (Blk.ext HB0_17.out e18)
  have HB1_18 := Lib.hid (Blk.ext HB1_17.out e18)
  have HB2_18 := Lib.hid (Blk.ext HB2_17.out e18)
  have HB3_18 := Lib.hid (Blk.ext HB3_17.out e18)
  have HB4_18 := Lib.hid (Blk.ext HB4_17.out e18)
  have HB5_18 := Lib.hid (Blk.ext HB5_17.out e18)
  have HB6_18 := Lib.hid (Blk.ext HB6_17.out e18)
  have HB7_18 := Lib.hid (Blk.ext HB7_17.out e18)
  have HB8_18 := Lib.hid (Blk.ext HB8_17.out e18)
  clear e18 c0_0 c0_1 c0_2 c0_3
  have c3_0 := HB3_18.out.cell 0 rfl
  have c3_1 := HB3_18.out.cell 1 rfl
  have c3_2 := HB3_18.out.cell 2 rfl
  have c3_3 := HB3_18.out.cell 3 rfl
  have c2_0 := HB2_18.out.cell 0 rfl
  have c2_1 := HB2_18.out.cell 1 rfl
  have c2_2 := HB2_18.out.cell 2 rfl
  have c2_3 := HB2_18.out.cell 3 rfl
  have c4_0 := HB4_18.out.cell 0 rfl
  have c4_1 := HB4_18.out.cell 1 rfl
  have c4_2 := HB4_18.out.cell 2 rfl
  have c4_3 := HB4_18.out.cell 3 rfl
  have c5_0 := HB5_18.out.cell 0 rfl
  have c5_1 := HB5_18.out.cell 1 rfl
  have c5_2 := HB5_18.out.cell 2 rfl
  have c5_3 := HB5_18.out.cell 3 rfl
  have c5_4 := HB5_18.out.cell 4 rfl
  have c5_5 := HB5_18.out.cell 5 rfl
  have c5_6 := HB5_18.out.cell 6 rfl
  have c5_7 := HB5_18.out.cell 7 rfl
  have c5_8 := HB5_18.out.cell 8 rfl
  have c6_0 := HB6_18.out.cell 0 rfl
  have c6_1 := HB6_18.out.cell 1 rfl
  have c6_2 := HB6_18.out.cell 2 rfl
  have c7_0 := HB7_18.out.cell 0 rfl
  have c7_1 := HB7_18.out.cell 1 rfl
  have c7_2 := HB7_18.out.cell 2 rfl
  have c7_3 := HB7_18.out.cell 3 rfl
  have c7_4 := HB7_18.out.cell 4 rfl
  have c7_5 := HB7_18.out.cell 5 rfl
  have c7_6 := HB7_18.out.cell 6 rfl
  have c7_7 := HB7_18.out.cell 7 rfl
  have c7_8 := HB7_18.out.cell 8 rfl
  have c7_9 := HB7_18.out.cell 9 rfl
  have c7_10 := HB7_18.out.cell 10 rfl
  have c7_11 := HB7_18.out.cell 11 rfl
  have c8_0 := HB8_18.out.cell 0 rfl
  have c8_1 := HB8_18.out.cell 1 rfl
  have c8_2 := HB8_18.out.cell 2 rfl
  have c0_0 := HB0_18.out.cell 0 rfl
  have c0_1 := HB0_18.out.cell 1 rfl
  have c0_2 := HB0_18.out.cell 2 rfl
  have c0_3 := HB0_18.out.cell 3 rfl
  have c1_0 := HB1_18.out.cell 0 rfl
  have c1_1 := HB1_18.out.cell 1 rfl
  have c1_2 := HB1_18.out.cell 2 rfl
  have c1_3 := HB1_18.out.cell 3 rfl
  go_wp2_with fail
  refine (rsame_a a b e _ (HG.out.ext HX18.out) HEA.out HNE.out).mono ?_; rintro e w19 ⟨rfl, e19⟩
  have HX19 : Hid (Ext w w19) := Lib.hid (HX18.out.trans e19)
  have HB0_19 := Lib.hid (Blk.ext HB0_18.out e19)
  have HB1_19 := Lib.hid (Blk.ext HB1_18.out e19)
  have HB2_19 := Lib.hid (Blk.ext HB2_18.out e19)
  clear e19 c3_0 c3_1 c3_2 c3_3 c2_0 c2_1 c2_2 c2_3 c4_0 c4_1 c4_2 c4_3 c5_0 c5_1 c5_2 c5_3 c5_4 c5_5 c5_6 c5_7 c5_8 c6_0 c6_1 c6_2 c7_0 c7_1 c7_2 c7_3 c7_4 c7_5 c7_6 c7_7 c7_8 c7_9 c7_10 c7_11 c8_0 c8_1 c8_2 c0_0 c0_1 c0_2 c0_3 c1_0 c1_1 c1_2 c1_3
  have c0_0 := HB0_19.out.cell 0 rfl
  have c0_1 := HB0_19.out.cell 1 rfl
  have c0_2 := HB0_19.out.cell 2 rfl
  have c0_3 := HB0_19.out.cell 3 rfl
  have c1_0 := HB1_19.out.cell 0 rfl
  have c1_1 := HB1_19.out.cell 1 rfl
  have c1_2 := HB1_19.out.cell 2 rfl
  have c1_3 := HB1_19.out.cell 3 rfl
  go_wp2_with fail
  refine (rcomp_a a b e _ (HG.out.ext HX19.out) HEA.out HNE.out).mono ?_; rintro e w20 ⟨rfl, e20⟩
  have HX20 : Hid (Ext w w20) := Lib.hid (HX19.out.trans e20)
  have HB2_20 := Lib.hid (Blk.ext HB2_19.out e20)
  clear e20 c0_0 c0_1 c0_2 c0_3 c1_0 c1_1 c1_2 c1_3
  go_upto_region 28 with fail
  refine wp_name (fun W => Ext w W ∧ Blk W (w3.heap.size) #[.int .i64 0, .int .i64 0, .int .i64 0, .int .i64 0] 22 ∧ Blk W (w20.heap.size) #[.int .i64 0, .int .i64 0, .int .i64 0, .int .i64 0] 22) ⟨(HX20.out.alloc _), (HB2_20.out.alloc _), (Blk.new' (w := _) (cs := #[.int .i64 0, .int .i64 0, .int .i64 0, .int .i64 0]) (t := 22) (by first | rfl | (simp only [World.size_alloc]; done) | (simp only [World.size_alloc]; omega) | simp))⟩ ?_
  rintro w21 ⟨e21, bB2_21, bB9_21⟩
  have HX21 := Lib.hid e21; have HB2_21 := Lib.hid bB2_21; have HB9_21 := Lib.hid bB9_21
  have HGEB9 : Hid (w.heap.size ≤ w20.heap.size) := Lib.hid (by have := HX20.out.size; first | omega | (simp only []; omega) | (simp; omega))
  clear e21 bB2_21 bB9_21
  have c9_0 := HB9_21.out.cell 0 rfl
  have c9_1 := HB9_21.out.cell 1 rfl
  have c9_2 := HB9_21.out.cell 2 rfl
  have c9_3 := HB9_21.out.cell 3 rfl
  have c2_0 := HB2_21.out.cell 0 rfl
  have c2_1 := HB2_21.out.cell 1 rfl
  have c2_2 := HB2_21.out.cell 2 rfl
  have c2_3 := HB2_21.out.cell 3 rfl
  go_wp2
  go_ret
  exact ⟨rfl, HX21.out⟩

set_option maxRecDepth 100000 in
set_option maxHeartbeats 16000000 in
theorem chks17_b (a b : Q4) (e : Int) (w : World) (g : Gd w) (hea : QErr a 0) (heb : QErr b e) (he : e ≠ 0) : Calls Tryz.prog 10 #[.agg #[.int .i64 a.w, .int .i64 a.x, .int .i64 a.y, .int .i64 a.z], .agg #[.int .i64 b.w, .int .i64 b.x, .int .i64 b.y, .int .i64 b.z]] w (Ret w (.bool true)) := by
  have HEA := Lib.hid hea
  have HEB := Lib.hid heb
  have HNE := Lib.hid he
  have HG := Lib.hid g
  clear hea heb he g
  have he_n : (e != 0) = true := bne_iff_ne.2 HNE.out
  have he_e : (e == 0) = false := beq_eq_false_iff_ne.2 HNE.out
  have eqa0 := eq4 0 0 0 0 0 0 0 0
  go_enter Tryz.func10, Tryz.ntmps10
  go_wp2_with fail
  refine (known17_c _ (HG.out.ext (((Ext.refl w).alloc _).alloc _))).mono ?_; rintro e w1 ⟨rfl, e1⟩
  have HX1 : Hid (Ext w w1) := Lib.hid ((((Ext.refl w).alloc _).alloc _).trans e1)
  have HB0_1 : Hid (Blk w1 (w.heap.size) #[.int .i64 a.w, .int .i64 a.x, .int .i64 a.y, .int .i64 a.z] 22) := Lib.hid (Blk.ext ((Blk.new' (w := _) (cs := #[.int .i64 a.w, .int .i64 a.x, .int .i64 a.y, .int .i64 a.z]) (t := 22) (by first | rfl | (simp only [World.size_alloc]; done) | (simp only [World.size_alloc]; omega) | simp)).alloc _) e1)
  have HB1_1 : Hid (Blk w1 (w.heap.size + 1) #[.int .i64 b.w, .int .i64 b.x, .int .i64 b.y, .int .i64 b.z] 22) := Lib.hid (Blk.ext (Blk.new' (w := _) (cs := #[.int .i64 b.w, .int .i64 b.x, .int .i64 b.y, .int .i64 b.z]) (t := 22) (by first | rfl | (simp only [World.size_alloc]; done) | (simp only [World.size_alloc]; omega) | simp)) e1)
  have HGEB0 : Hid (w.heap.size ≤ w.heap.size) := Lib.hid (by first | omega | (simp only []; omega) | (simp; omega))
  have HGEB1 : Hid (w.heap.size ≤ w.heap.size + 1) := Lib.hid (by first | omega | (simp only []; omega) | (simp; omega))
  clear e1
  have c0_0 := HB0_1.out.cell 0 rfl
  have c0_1 := HB0_1.out.cell 1 rfl
  have c0_2 := HB0_1.out.cell 2 rfl
  have c0_3 := HB0_1.out.cell 3 rfl
  go_wp2_with fail
  refine (lchk_l _ (HG.out.ext HX1.out) HEA.out).mono ?_; rintro e w2 ⟨rfl, e2⟩
  have HX2 : Hid (Ext w w2) := Lib.hid (HX1.out.trans e2)
  have HB0_2 := Lib.hid (Blk.ext HB0_1.out e2)
  have HB1_2 := Lib.hid (Blk.ext HB1_1.out e2)
  clear e2 c0_0 c0_1 c0_2 c0_3
  have c0_0 := HB0_2.out.cell 0 rfl
  have c0_1 := HB0_2.out.cell 1 rfl
  have c0_2 := HB0_2.out.cell 2 rfl
  have c0_3 := HB0_2.out.cell 3 rfl
  go_wp2_with fail
  refine (rchk_l _ (HG.out.ext HX2.out) HEA.out).mono ?_; rintro e w3 ⟨rfl, e3⟩
  have HX3 : Hid (Ext w w3) := Lib.hid (HX2.out.trans e3)
  have HB0_3 := Lib.hid (Blk.ext HB0_2.out e3)
  have HB1_3 := Lib.hid (Blk.ext HB1_2.out e3)
  clear e3 c0_0 c0_1 c0_2 c0_3
  go_upto_region 21 with fail
  refine wp_name (fun W => Ext w W ∧ Blk W (w.heap.size) #[.int .i64 a.w, .int .i64 a.x, .int .i64 a.y, .int .i64 a.z] 22 ∧ Blk W (w.heap.size + 1) #[.int .i64 b.w, .int .i64 b.x, .int .i64 b.y, .int .i64 b.z] 22 ∧ Blk W (w3.heap.size) #[.int .i64 0, .int .i64 0, .int .i64 0, .int .i64 0] 22) ⟨(HX3.out.alloc _), (HB0_3.out.alloc _), (HB1_3.out.alloc _), (Blk.new' (w := _) (cs := #[.int .i64 0, .int .i64 0, .int .i64 0, .int .i64 0]) (t := 22) (by first | rfl | (simp only [World.size_alloc]; done) | (simp only [World.size_alloc]; omega) | simp))⟩ ?_
  rintro w4 ⟨e4, bB0_4, bB1_4, bB2_4⟩
  have HX4 := Lib.hid e4; have HB0_4 := Lib.hid bB0_4; have HB1_4 := Lib.hid bB1_4; have HB2_4 := Lib.hid bB2_4
  have HGEB2 : Hid (w.heap.size ≤ w3.heap.size) := Lib.hid (by have := HX3.out.size; first | omega | (simp only []; omega) | (simp; omega))
  clear e4 bB0_4 bB1_4 bB2_4
  have c1_0 := HB1_4.out.cell 0 rfl
  have c1_1 := HB1_4.out.cell 1 rfl
  have c1_2 := HB1_4.out.cell 2 rfl
  have c1_3 := HB1_4.out.cell 3 rfl
  go_wp2_with fail
  refine (lchk_l _ (HG.out.ext HX4.out) HEB.out).mono ?_; rintro e w5 ⟨rfl, e5⟩
  have HX5 : Hid (Ext w w5) := Lib.hid (HX4.out.trans e5)
  have HB0_5 := Lib.hid (Blk.ext HB0_4.out e5)
  have HB1_5 := Lib.hid (Blk.ext HB1_4.out e5)
  have HB2_5 := Lib.hid (Blk.ext HB2_4.out e5)
  clear e5 c1_0 c1_1 c1_2 c1_3
  have c0_0 := HB0_5.out.cell 0 rfl
  have c0_1 := HB0_5.out.cell 1 rfl
  have c0_2 := HB0_5.out.cell 2 rfl
  have c0_3 := HB0_5.out.cell 3 rfl
  have c1_0 := HB1_5.out.cell 0 rfl
  have c1_1 := HB1_5.out.cell 1 rfl
  have c1_2 := HB1_5.out.cell 2 rfl
  have c1_3 := HB1_5.out.cell 3 rfl
  go_wp2_with fail
  refine (rsame_b a b e _ (HG.out.ext HX5.out) HEA.out HEB.out HNE.out).mono ?_; rintro e w6 ⟨rfl, e6⟩
  have HX6 : Hid (Ext w w6) := Lib.hid (HX5.out.trans e6)
  have HB0_6 := Lib.hid (Blk.ext HB0_5.out e6)
  have HB1_6 := Lib.hid (Blk.ext HB1_5.out e6)
  have HB2_6 := Lib.hid (Blk.ext HB2_5.out e6)
  clear e6 c0_0 c0_1 c0_2 c0_3 c1_0 c1_1 c1_2 c1_3
  have c0_0 := HB0_6.out.cell 0 rfl
  have c0_1 := HB0_6.out.cell 1 rfl
  have c0_2 := HB0_6.out.cell 2 rfl
  have c0_3 := HB0_6.out.cell 3 rfl
  have c1_0 := HB1_6.out.cell 0 rfl
  have c1_1 := HB1_6.out.cell 1 rfl
  have c1_2 := HB1_6.out.cell 2 rfl
  have c1_3 := HB1_6.out.cell 3 rfl
  go_wp2_with fail
  refine (rcomp_b a b e _ (HG.out.ext HX6.out) HEA.out HEB.out HNE.out).mono ?_; rintro e w7 ⟨rfl, e7⟩
  have HX7 : Hid (Ext w w7) := Lib.hid (HX6.out.trans e7)
  have HB2_7 := Lib.hid (Blk.ext HB2_6.out e7)
  clear e7 c0_0 c0_1 c0_2 c0_3 c1_0 c1_1 c1_2 c1_3
  go_upto_region 28 with fail
  refine wp_name (fun W => Ext w W ∧ Blk W (w3.heap.size) #[.int .i64 0, .int .i64 0, .int .i64 0, .int .i64 0] 22 ∧ Blk W (w7.heap.size) #[.int .i64 0, .int .i64 0, .int .i64 0, .int .i64 0] 22) ⟨(HX7.out.alloc _), (HB2_7.out.alloc _), (Blk.new' (w := _) (cs := #[.int .i64 0, .int .i64 0, .int .i64 0, .int .i64 0]) (t := 22) (by first | rfl | (simp only [World.size_alloc]; done) | (simp only [World.size_alloc]; omega) | simp))⟩ ?_
  rintro w8 ⟨e8, bB2_8, bB3_8⟩
  have HX8 := Lib.hid e8; have HB2_8 := Lib.hid bB2_8; have HB3_8 := Lib.hid bB3_8
  have HGEB3 : Hid (w.heap.size ≤ w7.heap.size) := Lib.hid (by have := HX7.out.size; first | omega | (simp only []; omega) | (simp; omega))
  clear e8 bB2_8 bB3_8
  have c3_0 := HB3_8.out.cell 0 rfl
  have c3_1 := HB3_8.out.cell 1 rfl
  have c3_2 := HB3_8.out.cell 2 rfl
  have c3_3 := HB3_8.out.cell 3 rfl
  have c2_0 := HB2_8.out.cell 0 rfl
  have c2_1 := HB2_8.out.cell 1 rfl
  have c2_2 := HB2_8.out.cell 2 rfl
  have c2_3 := HB2_8.out.cell 3 rfl
  go_wp2
  go_ret
  exact ⟨rfl, HX8.out⟩

set_option maxRecDepth 100000 in
set_option maxHeartbeats 16000000 in
theorem chks17_ok (a b : Q4) (w : World) (g : Gd w) (hea : QErr a 0) (heb : QErr b 0) : Calls Tryz.prog 10 #[.agg #[.int .i64 a.w, .int .i64 a.x, .int .i64 a.y, .int .i64 a.z], .agg #[.int .i64 b.w, .int .i64 b.x, .int .i64 b.y, .int .i64 b.z]] w (Ret w (.bool true)) := by
  have HEA := Lib.hid hea
  have HEB := Lib.hid heb
  have HG := Lib.hid g
  clear hea heb g
  go_enter Tryz.func10, Tryz.ntmps10
  go_wp2_with fail
  refine (known17_c _ (HG.out.ext (((Ext.refl w).alloc _).alloc _))).mono ?_; rintro e w1 ⟨rfl, e1⟩
  have HX1 : Hid (Ext w w1) := Lib.hid ((((Ext.refl w).alloc _).alloc _).trans e1)
  have HB0_1 : Hid (Blk w1 (w.heap.size) #[.int .i64 a.w, .int .i64 a.x, .int .i64 a.y, .int .i64 a.z] 22) := Lib.hid (Blk.ext ((Blk.new' (w := _) (cs := #[.int .i64 a.w, .int .i64 a.x, .int .i64 a.y, .int .i64 a.z]) (t := 22) (by first | rfl | (simp only [World.size_alloc]; done) | (simp only [World.size_alloc]; omega) | simp)).alloc _) e1)
  have HB1_1 : Hid (Blk w1 (w.heap.size + 1) #[.int .i64 b.w, .int .i64 b.x, .int .i64 b.y, .int .i64 b.z] 22) := Lib.hid (Blk.ext (Blk.new' (w := _) (cs := #[.int .i64 b.w, .int .i64 b.x, .int .i64 b.y, .int .i64 b.z]) (t := 22) (by first | rfl | (simp only [World.size_alloc]; done) | (simp only [World.size_alloc]; omega) | simp)) e1)
  have HGEB0 : Hid (w.heap.size ≤ w.heap.size) := Lib.hid (by first | omega | (simp only []; omega) | (simp; omega))
  have HGEB1 : Hid (w.heap.size ≤ w.heap.size + 1) := Lib.hid (by first | omega | (simp only []; omega) | (simp; omega))
  clear e1
  have c0_0 := HB0_1.out.cell 0 rfl
  have c0_1 := HB0_1.out.cell 1 rfl
  have c0_2 := HB0_1.out.cell 2 rfl
  have c0_3 := HB0_1.out.cell 3 rfl
  go_wp2_with fail
  refine (lchk_l _ (HG.out.ext HX1.out) HEA.out).mono ?_; rintro e w2 ⟨rfl, e2⟩
  have HX2 : Hid (Ext w w2) := Lib.hid (HX1.out.trans e2)
  have HB0_2 := Lib.hid (Blk.ext HB0_1.out e2)
  have HB1_2 := Lib.hid (Blk.ext HB1_1.out e2)
  clear e2 c0_0 c0_1 c0_2 c0_3
  have c0_0 := HB0_2.out.cell 0 rfl
  have c0_1 := HB0_2.out.cell 1 rfl
  have c0_2 := HB0_2.out.cell 2 rfl
  have c0_3 := HB0_2.out.cell 3 rfl
  go_wp2_with fail
  refine (rchk_l _ (HG.out.ext HX2.out) HEA.out).mono ?_; rintro e w3 ⟨rfl, e3⟩
  have HX3 : Hid (Ext w w3) := Lib.hid (HX2.out.trans e3)
  have HB0_3 := Lib.hid (Blk.ext HB0_2.out e3)
  have HB1_3 := Lib.hid (Blk.ext HB1_2.out e3)
  clear e3 c0_0 c0_1 c0_2 c0_3
  go_upto_region 21 with fail
  refine wp_name (fun W => Ext w W ∧ Blk W (w.heap.size) #[.int .i64 a.w, .int .i64 a.x, .int .i64 a.y, .int .i64 a.z] 22 ∧ Blk W (w.heap.size + 1) #[.int .i64 b.w, .int .i64 b.x, .int .i64 b.y, .int .i64 b.z] 22) ⟨(HX3.out.alloc _), (HB0_3.out.alloc _), (HB1_3.out.alloc _)⟩ ?_
  rintro w4 ⟨e4, bB0_4, bB1_4⟩
  have HX4 := Lib.hid e4; have HB0_4 := Lib.hid bB0_4; have HB1_4 := Lib.hid bB1_4
  clear e4 bB0_4 bB1_4
  have c1_0 := HB1_4.out.cell 0 rfl
  have c1_1 := HB1_4.out.cell 1 rfl
  have c1_2 := HB1_4.out.cell 2 rfl
  have c1_3 := HB1_4.out.cell 3 rfl
  go_wp2_with fail
  refine (lchk_l _ (HG.out.ext HX4.out) HEB.out).mono ?_; rintro e w5 ⟨rfl, e5⟩
  have HX5 : Hid (Ext w w5) := Lib.hid (HX4.out.trans e5)
  have HB0_5 := Lib.hid (Blk.ext HB0_4.out e5)
  have HB1_5 := Lib.hid (Blk.ext HB1_4.out e5)
  clear e5 c1_0 c1_1 c1_2 c1_3
  have c0_0 := HB0_5.out.cell 0 rfl
  have c0_1 := HB0_5.out.cell 1 rfl
  have c0_2 := HB0_5.out.cell 2 rfl
  have c0_3 := HB0_5.out.cell 3 rfl
  go_wp2_with fail
  refine (rapp_0 a _ (HG.out.ext HX5.out) HEA.out).mono ?_; rintro e w6 ⟨rfl, e6⟩
  have HX6 : Hid (Ext w w6) := Lib.hid (HX5.out.trans e6)
  have HB1_6 := Lib.hid (Blk.ext HB1_5.out e6)
  clear e6 c0_0 c0_1 c0_2 c0_3
  go_upto_region 24 with fail
  refine wp_name (fun W => Ext w W ∧ Blk W (w.heap.size + 1) #[.int .i64 b.w, .int .i64 b.x, .int .i64 b.y, .int .i64 b.z] 22) ⟨(HX6.out.alloc _), (HB1_6.out.alloc _)⟩ ?_
  rintro w7 ⟨e7, bB1_7⟩
  have HX7 := Lib.hid e7; have HB1_7 := Lib.hid bB1_7
  clear e7 bB1_7
  have c1_0 := HB1_7.out.cell 0 rfl
  have c1_1 := HB1_7.out.cell 1 rfl
  have c1_2 := HB1_7.out.cell 2 rfl
  have c1_3 := HB1_7.out.cell 3 rfl
  go_wp2_with fail
  refine (rabout_0 b _ (HG.out.ext HX7.out) HEB.out).mono ?_; rintro e w8 ⟨rfl, e8⟩
  have HX8 : Hid (Ext w w8) := Lib.hid (HX7.out.trans e8)
  clear e8 c1_0 c1_1 c1_2 c1_3
  go_wp2
  go_ret
  exact ⟨rfl, (HX8.out.alloc _)⟩

theorem chks17_walk (a b : Q4) (w : World) (g : Gd w) : Calls Tryz.prog 10 #[.agg #[.int .i64 a.w, .int .i64 a.x, .int .i64 a.y, .int .i64 a.z], .agg #[.int .i64 b.w, .int .i64 b.x, .int .i64 b.y, .int .i64 b.z]] w (Ret w (.bool true)) := by
  obtain ⟨ea, ha⟩ := qerr_ex a
  obtain ⟨eb, hb⟩ := qerr_ex b
  by_cases h0 : ea = 0
  · subst h0
    by_cases h1 : eb = 0
    · subst h1; exact chks17_ok a b w g ha hb
    · exact chks17_b a b eb w g ha hb h1
  · exact chks17_a a b ea w g ha h0
end Go.Proofs.YtjeimihnoiephaaGreatDoor
