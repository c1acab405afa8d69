/- Part 38 of the proof: M7. -/
import Derived.Test.YtjeimihnoiephaaGreatDoorQB1
import Derived.Test.YtjeimihnoiephaaGreatDoorQB2
import Derived.Test.YtjeimihnoiephaaGreatDoorQB3
import Derived.Test.YtjeimihnoiephaaGreatDoorQB4
import Derived.Test.YtjeimihnoiephaaGreatDoorQB5
import Derived.Test.YtjeimihnoiephaaGreatDoorQB6
import Derived.Test.YtjeimihnoiephaaGreatDoorQB7
import Derived.Test.YtjeimihnoiephaaGreatDoorQB8
import Derived.Test.YtjeimihnoiephaaGreatDoorQB9
import Derived.Test.YtjeimihnoiephaaGreatDoorQB10
import Derived.Test.YtjeimihnoiephaaGreatDoorQB11
import Derived.Test.YtjeimihnoiephaaGreatDoorQB12
import Derived.Test.YtjeimihnoiephaaGreatDoorQB13
import Derived.Test.YtjeimihnoiephaaGreatDoorQB14
import Derived.Test.YtjeimihnoiephaaGreatDoorQB15
import Derived.Test.YtjeimihnoiephaaGreatDoorQB16
import Derived.Test.YtjeimihnoiephaaGreatDoorQB17
import Derived.Test.YtjeimihnoiephaaGreatDoorQB18
import Derived.Test.YtjeimihnoiephaaGreatDoorQB19
import Derived.Test.YtjeimihnoiephaaGreatDoorQB20
import Derived.Test.YtjeimihnoiephaaGreatDoorQB21
import Derived.Test.YtjeimihnoiephaaGreatDoorQB22
import Derived.Test.YtjeimihnoiephaaGreatDoorQB23
import Derived.Test.YtjeimihnoiephaaGreatDoorQB24
import Derived.Test.YtjeimihnoiephaaGreatDoorQB25
import Derived.Test.YtjeimihnoiephaaGreatDoorQB26
import Derived.Test.YtjeimihnoiephaaGreatDoorQB27
import Derived.Test.YtjeimihnoiephaaGreatDoorQB28
import Derived.Test.YtjeimihnoiephaaGreatDoorQB29
import Derived.Test.YtjeimihnoiephaaGreatDoorQB30
import Derived.Test.YtjeimihnoiephaaGreatDoorQB31
import Derived.Test.YtjeimihnoiephaaGreatDoorQB32
import Derived.Test.YtjeimihnoiephaaGreatDoorQB33
import Derived.Test.YtjeimihnoiephaaGreatDoorQB34
import Derived.Test.YtjeimihnoiephaaGreatDoorQB35
import Derived.Test.YtjeimihnoiephaaGreatDoorQB36
import Derived.Test.YtjeimihnoiephaaGreatDoorQB37
namespace Go.Proofs.YtjeimihnoiephaaGreatDoor
open Go Go.RowKit
set_option linter.unusedVariables false
theorem conj4_bd {a : Q4} (h : Q4In a) : Q4Bd (conj4 a) := ⟨by have := h.w; show -10000000000000 ≤ a.w ∧ a.w ≤ 10000000000000; omega, by have := h.x; show -10000000000000 ≤ -a.x ∧ -a.x ≤ 10000000000000; omega, by have := h.y; show -10000000000000 ≤ -a.y ∧ -a.y ≤ 10000000000000; omega, by have := h.z; show -10000000000000 ≤ -a.z ∧ -a.z ≤ 10000000000000; omega⟩
theorem rprimc_as (a p : Q4) (e : prim4 (conj4 a) = p) (w : World) (g : Gd w) (hi : Q4In a) (hz : ¬ a.zero) : Calls Tryz.prog 55 #[.agg #[.int .i64 a.w, .int .i64 (-a.x), .int .i64 (-a.y), .int .i64 (-a.z)]] w (Ret w (.agg #[.int .i64 p.w, .int .i64 p.x, .int .i64 p.y, .int .i64 p.z])) := rprim_as (conj4 a) p e w g (conj4_bd hi) (conj4_nz hz)
theorem lprimc_as (a p : Q4) (e : prim4 (conj4 a) = p) (w : World) (g : Gd w) (hi : Q4In a) (hz : ¬ a.zero) : Calls Tryz.prog 19 #[.agg #[.int .i64 a.w, .int .i64 (-a.x), .int .i64 (-a.y), .int .i64 (-a.z)]] w (Ret w (.agg #[.int .i64 p.w, .int .i64 p.x, .int .i64 p.y, .int .i64 p.z])) := lprim_as (conj4 a) p e w g (conj4_bd hi) (conj4_nz hz)

set_option maxRecDepth 100000 in
set_option maxHeartbeats 2000000 in
theorem rpri_c (a p : Q4) (w : World) (g : Gd w) (hq : QErr a 0) (hi : Q4In a) (hz : ¬ a.zero) (hp : prim4 a = p) : Calls Tryz.prog 21 #[.agg #[.int .i64 a.w, .int .i64 a.x, .int .i64 a.y, .int .i64 a.z]] w (Ret w (.tuple #[.agg #[.int .i64 p.w, .int .i64 p.x, .int .i64 p.y, .int .i64 p.z], .int .i64 0])) := by
  have HE := Lib.hid hq
  have HI := Lib.hid hi
  have HZ := Lib.hid hz
  have HEP := Lib.hid hp
  have HG := Lib.hid g
  clear hq hi hz hp g
  go_enter Tryz.func21, Tryz.ntmps21
  go_wp2_with fail
  refine (rchk_l _ (HG.out.ext (((Ext.refl w).alloc _).alloc _)) HE.out).mono ?_; rintro e w1 ⟨rfl, e1⟩
  have HX1 : Hid (Ext w w1) := Lib.hid ((((Ext.refl w).alloc _).alloc _).trans e1)
  have HB0_1 : Hid (Blk w1 (w.heap.size) #[.int .i64 a.w, .int .i64 a.x, .int .i64 a.y, .int .i64 a.z] 22) := Lib.hid (Blk.ext ((Blk.new' (w := _) (cs := #[.int .i64 a.w, .int .i64 a.x, .int .i64 a.y, .int .i64 a.z]) (t := 22) (by first | rfl | (simp only [World.size_alloc]; done) | (simp only [World.size_alloc]; omega) | simp)).alloc _) e1)
  have HB1_1 : Hid (Blk w1 (w.heap.size + 1) #[.int .i64 0, .int .i64 0, .int .i64 0, .int .i64 0] 22) := Lib.hid (Blk.ext (Blk.new' (w := _) (cs := #[.int .i64 0, .int .i64 0, .int .i64 0, .int .i64 0]) (t := 22) (by first | rfl | (simp only [World.size_alloc]; done) | (simp only [World.size_alloc]; omega) | simp)) e1)
  have HGEB0 : Hid (w.heap.size ≤ w.heap.size) := Lib.hid (by first | omega | (simp only []; omega) | (simp; omega))
  have HGEB1 : Hid (w.heap.size ≤ w.heap.size + 1) := Lib.hid (by first | omega | (simp only []; omega) | (simp; omega))
  clear e1
  have c0_0 := HB0_1.out.cell 0 rfl
  have c0_1 := HB0_1.out.cell 1 rfl
  have c0_2 := HB0_1.out.cell 2 rfl
  have c0_3 := HB0_1.out.cell 3 rfl
  go_wp2_with fail
  refine (rprim_as a p HEP.out _ (HG.out.ext HX1.out) HI.out.bd HZ.out).mono ?_; rintro e w2 ⟨rfl, e2⟩
  have HX2 : Hid (Ext w w2) := Lib.hid (HX1.out.trans e2)
  have HB1_2 := Lib.hid (Blk.ext HB1_1.out e2)
  clear e2 c0_0 c0_1 c0_2 c0_3
  have c1_0 := HB1_2.out.cell 0 rfl
  have f1_0 := HB1_2.out.free 0
  have c1_1 := HB1_2.out.cell 1 rfl
  have f1_1 := HB1_2.out.free 1
  have c1_2 := HB1_2.out.cell 2 rfl
  have f1_2 := HB1_2.out.free 2
  have c1_3 := HB1_2.out.cell 3 rfl
  have f1_3 := HB1_2.out.free 3
  go_wp2_with fail
  refine wp_name (fun W => Ext w W ∧ Blk W (w.heap.size + 1) #[.int .i64 p.w, .int .i64 p.x, .int .i64 p.y, .int .i64 p.z] 22) ⟨((((HX2.out.setCell (by have := HGEB1.out; first | omega | (simp only []; omega) | (simp; omega)) _).setCell (by have := HGEB1.out; first | omega | (simp only []; omega) | (simp; omega)) _).setCell (by have := HGEB1.out; first | omega | (simp only []; omega) | (simp; omega)) _).setCell (by have := HGEB1.out; first | omega | (simp only []; omega) | (simp; omega)) _), ((((HB1_2.out.set 0 (.int .i64 p.w)).set 1 (.int .i64 p.x)).set 2 (.int .i64 p.y)).set 3 (.int .i64 p.z))⟩ ?_
  rintro w3 ⟨e3, bB1_3⟩
  have HX3 := Lib.hid e3; have HB1_3 := Lib.hid bB1_3
  clear e3 bB1_3 c1_0 f1_0 c1_1 f1_1 c1_2 f1_2 c1_3 f1_3
  have gB1_0 := HB1_3.out.cell 0 rfl
  have gB1_1 := HB1_3.out.cell 1 rfl
  have gB1_2 := HB1_3.out.cell 2 rfl
  have gB1_3 := HB1_3.out.cell 3 rfl
  refine bodyPost_ret (v := .tuple #[.agg #[.int .i64 p.w, .int .i64 p.x, .int .i64 p.y, .int .i64 p.z], .int .i64 0]) (by simp [results, Tryz.results21, go_sem, gB1_0, gB1_1, gB1_2, gB1_3]) rfl ⟨rfl, HX3.out⟩

set_option maxRecDepth 100000 in
set_option maxHeartbeats 2000000 in
theorem rinv_c (a p : Q4) (w : World) (g : Gd w) (hq : QErr a 0) (hi : Q4In a) (hz : ¬ a.zero) (hp : prim4 (conj4 a) = p) : Calls Tryz.prog 22 #[.agg #[.int .i64 a.w, .int .i64 a.x, .int .i64 a.y, .int .i64 a.z]] w (Ret w (.tuple #[.agg #[.int .i64 p.w, .int .i64 p.x, .int .i64 p.y, .int .i64 p.z], .int .i64 0])) := by
  have HE := Lib.hid hq
  have HZ := Lib.hid hz
  have HEP := Lib.hid hp
  have HG := Lib.hid g
  clear hq hz hp g
  have bw := hi.w; have bx := hi.x; have by_ := hi.y; have bz := hi.z
  have HI := Lib.hid hi; clear hi
  go_enter Tryz.func22, Tryz.ntmps22
  go_wp2_with fail
  refine (rchk_l _ (HG.out.ext (((Ext.refl w).alloc _).alloc _)) HE.out).mono ?_; rintro e w1 ⟨rfl, e1⟩
  have HX1 : Hid (Ext w w1) := Lib.hid ((((Ext.refl w).alloc _).alloc _).trans e1)
  have HB0_1 : Hid (Blk w1 (w.heap.size) #[.int .i64 a.w, .int .i64 a.x, .int .i64 a.y, .int .i64 a.z] 22) := Lib.hid (Blk.ext ((Blk.new' (w := _) (cs := #[.int .i64 a.w, .int .i64 a.x, .int .i64 a.y, .int .i64 a.z]) (t := 22) (by first | rfl | (simp only [World.size_alloc]; done) | (simp only [World.size_alloc]; omega) | simp)).alloc _) e1)
  have HB1_1 : Hid (Blk w1 (w.heap.size + 1) #[.int .i64 0, .int .i64 0, .int .i64 0, .int .i64 0] 22) := Lib.hid (Blk.ext (Blk.new' (w := _) (cs := #[.int .i64 0, .int .i64 0, .int .i64 0, .int .i64 0]) (t := 22) (by first | rfl | (simp only [World.size_alloc]; done) | (simp only [World.size_alloc]; omega) | simp)) e1)
  have HGEB0 : Hid (w.heap.size ≤ w.heap.size) := Lib.hid (by first | omega | (simp only []; omega) | (simp; omega))
  have HGEB1 : Hid (w.heap.size ≤ w.heap.size + 1) := Lib.hid (by first | omega | (simp only []; omega) | (simp; omega))
  clear e1
  have c0_0 := HB0_1.out.cell 0 rfl
  have c0_1 := HB0_1.out.cell 1 rfl
  have c0_2 := HB0_1.out.cell 2 rfl
  have c0_3 := HB0_1.out.cell 3 rfl
  go_wp2_with fail
  refine (rprimc_as a p HEP.out _ (HG.out.ext HX1.out) HI.out HZ.out).mono ?_; rintro e w2 ⟨rfl, e2⟩
  have HX2 : Hid (Ext w w2) := Lib.hid (HX1.out.trans e2)
  have HB1_2 := Lib.hid (Blk.ext HB1_1.out e2)
  clear e2 c0_0 c0_1 c0_2 c0_3
  have c1_0 := HB1_2.out.cell 0 rfl
  have f1_0 := HB1_2.out.free 0
  have c1_1 := HB1_2.out.cell 1 rfl
  have f1_1 := HB1_2.out.free 1
  have c1_2 := HB1_2.out.cell 2 rfl
  have f1_2 := HB1_2.out.free 2
  have c1_3 := HB1_2.out.cell 3 rfl
  have f1_3 := HB1_2.out.free 3
  go_wp2_with fail
  refine wp_name (fun W => Ext w W ∧ Blk W (w.heap.size + 1) #[.int .i64 p.w, .int .i64 p.x, .int .i64 p.y, .int .i64 p.z] 22) ⟨((((HX2.out.setCell (by have := HGEB1.out; first | omega | (simp only []; omega) | (simp; omega)) _).setCell (by have := HGEB1.out; first | omega | (simp only []; omega) | (simp; omega)) _).setCell (by have := HGEB1.out; first | omega | (simp only []; omega) | (simp; omega)) _).setCell (by have := HGEB1.out; first | omega | (simp only []; omega) | (simp; omega)) _), ((((HB1_2.out.set 0 (.int .i64 p.w)).set 1 (.int .i64 p.x)).set 2 (.int .i64 p.y)).set 3 (.int .i64 p.z))⟩ ?_
  rintro w3 ⟨e3, bB1_3⟩
  have HX3 := Lib.hid e3; have HB1_3 := Lib.hid bB1_3
  clear e3 bB1_3 c1_0 f1_0 c1_1 f1_1 c1_2 f1_2 c1_3 f1_3
  have gB1_0 := HB1_3.out.cell 0 rfl
  have gB1_1 := HB1_3.out.cell 1 rfl
  have gB1_2 := HB1_3.out.cell 2 rfl
  have gB1_3 := HB1_3.out.cell 3 rfl
  refine bodyPost_ret (v := .tuple #[.agg #[.int .i64 p.w, .int .i64 p.x, .int .i64 p.y, .int .i64 p.z], .int .i64 0]) (by simp [results, Tryz.results22, go_sem, gB1_0, gB1_1, gB1_2, gB1_3]) rfl ⟨rfl, HX3.out⟩

set_option maxRecDepth 100000 in
set_option maxHeartbeats 4000000 in
theorem rsame_c (a b pa pb : Q4) (zb : Bool) (w : World) (g : Gd w) (hea : QErr a 0) (heb : QErr b 0) (hia : Q4In a) (hib : Q4In b) (hza : ¬ a.zero) (hzb : ¬ b.zero) (hpa : prim4 a = pa) (hpb : prim4 b = pb) (hzz : (pa.w == pb.w && (pa.x == pb.x && (pa.y == pb.y && pa.z == pb.z))) = zb) : Calls Tryz.prog 23 #[.agg #[.int .i64 a.w, .int .i64 a.x, .int .i64 a.y, .int .i64 a.z], .agg #[.int .i64 b.w, .int .i64 b.x, .int .i64 b.y, .int .i64 b.z]] w (Ret w (.tuple #[.bool zb, .int .i64 0])) := by
  have HEA := Lib.hid hea
  have HEB := Lib.hid heb
  have HIA := Lib.hid hia
  have HIB := Lib.hid hib
  have HZA := Lib.hid hza
  have HZB2 := Lib.hid hzb
  have HPA := Lib.hid hpa
  have HPB := Lib.hid hpb
  have HZB := Lib.hid hzz
  have HG := Lib.hid g
  clear hea heb hia hib hza hzb hpa hpb hzz g
  have eqx : ∀ W, (Op.equalIn 10000 22 (.agg #[.int .i64 pa.w, .int .i64 pa.x, .int .i64 pa.y, .int .i64 pa.z]) (.agg #[.int .i64 pb.w, .int .i64 pb.x, .int .i64 pb.y, .int .i64 pb.z])).run Tryz.prog W = .ok zb W := fun W => by rw [eq4, HZB.out]
  go_enter Tryz.func23, Tryz.ntmps23
  go_wp2_with fail
  refine (rchks_ok a b 0 (w.heap.size + 1 + 1) _ (HG.out.ext ((((Ext.refl w).alloc _).alloc _).alloc _)) (Blk.new' (w := _) (cs := #[.int .i64 a.w, .int .i64 a.x, .int .i64 a.y, .int .i64 a.z, .int .i64 b.w, .int .i64 b.x, .int .i64 b.y, .int .i64 b.z]) (t := 22) (by first | rfl | (simp only [World.size_alloc]; done) | (simp only [World.size_alloc]; omega) | simp)) HEA.out HEB.out).mono ?_; rintro e w1 ⟨rfl, e1⟩
  have HX1 : Hid (Ext w w1) := Lib.hid (((((Ext.refl w).alloc _).alloc _).alloc _).trans e1)
  have HB0_1 : Hid (Blk w1 (w.heap.size) #[.int .i64 a.w, .int .i64 a.x, .int .i64 a.y, .int .i64 a.z] 22) := Lib.hid (Blk.ext (((Blk.new' (w := _) (cs := #[.int .i64 a.w, .int .i64 a.x, .int .i64 a.y, .int .i64 a.z]) (t := 22) (by first | rfl | (simp only [World.size_alloc]; done) | (simp only [World.size_alloc]; omega) | simp)).alloc _).alloc _) e1)
  have HB1_1 : Hid (Blk w1 (w.heap.size + 1) #[.int .i64 b.w, .int .i64 b.x, .int .i64 b.y, .int .i64 b.z] 22) := Lib.hid (Blk.ext ((Blk.new' (w := _) (cs := #[.int .i64 b.w, .int .i64 b.x, .int .i64 b.y, .int .i64 b.z]) (t := 22) (by first | rfl | (simp only [World.size_alloc]; done) | (simp only [World.size_alloc]; omega) | simp)).alloc _) e1)
  have HB2_1 : Hid (Blk w1 (w.heap.size + 1 + 1) #[.int .i64 a.w, .int .i64 a.x, .int .i64 a.y, .int .i64 a.z, .int .i64 b.w, .int .i64 b.x, .int .i64 b.y, .int .i64 b.z] 22) := Lib.hid (Blk.ext (Blk.new' (w := _) (cs := #[.int .i64 a.w, .int .i64 a.x, .int .i64 a.y, .int .i64 a.z, .int .i64 b.w, .int .i64 b.x, .int .i64 b.y, .int .i64 b.z]) (t := 22) (by first | rfl | (simp only [World.size_alloc]; done) | (simp only [World.size_alloc]; omega) | simp)) e1)
  have HGEB0 : Hid (w.heap.size ≤ w.heap.size) := Lib.hid (by first | omega | (simp only []; omega) | (simp; omega))
  have HGEB1 : Hid (w.heap.size ≤ w.heap.size + 1) := Lib.hid (by first | omega | (simp only []; omega) | (simp; omega))
  have HGEB2 : Hid (w.heap.size ≤ w.heap.size + 1 + 1) := Lib.hid (by first | omega | (simp only []; omega) | (simp; omega))
  clear e1
  go_wp2_with fail
  refine wp_name (fun W => Ext w W ∧ Blk W (w.heap.size) #[.int .i64 a.w, .int .i64 a.x, .int .i64 a.y, .int .i64 a.z] 22 ∧ Blk W (w.heap.size + 1) #[.int .i64 b.w, .int .i64 b.x, .int .i64 b.y, .int .i64 b.z] 22) ⟨HX1.out, HB0_1.out, HB1_1.out⟩ ?_
  rintro w2 ⟨e2, bB0_2, bB1_2⟩
  have HX2 := Lib.hid e2; have HB0_2 := Lib.hid bB0_2; have HB1_2 := Lib.hid bB1_2
  clear e2 bB0_2 bB1_2
  refine region_lin [.val (.agg #[.int .i64 a.w, .int .i64 a.x, .int .i64 a.y, .int .i64 a.z]), .val (.agg #[.int .i64 pa.w, .int .i64 pa.x, .int .i64 pa.y, .int .i64 pa.z]), .val (.agg #[.int .i64 b.w, .int .i64 b.x, .int .i64 b.y, .int .i64 b.z]), .val (.agg #[.int .i64 pb.w, .int .i64 pb.x, .int .i64 pb.y, .int .i64 pb.z]), .val (.bool zb), .val (.bool zb), .val (.int .i64 0)] (by kernel_rfl) (by kernel_rfl) (by kernel_rfl) ?_ (fun g2 w3 hx_ hm_ hne_ => ?_)
  · skip
    refine RnL.cons (fun g2 A_ W_ hs_ => ?_) ?_
    · have q2_ := (hs_.old 2 (by kernel_rfl) : A_.tmps[2]?.getD undef = .pointer (some ⟨w.heap.size, 0, none⟩))
      have cB0_0 := ((HB0_2.out.drew.ext hs_.1)).cell 0 rfl
      have cB0_1 := ((HB0_2.out.drew.ext hs_.1)).cell 1 rfl
      have cB0_2 := ((HB0_2.out.drew.ext hs_.1)).cell 2 rfl
      have cB0_3 := ((HB0_2.out.drew.ext hs_.1)).cell 3 rfl
      refine Rn.val fun K_ hK_ => ?_
      go_simp
      exact hK_.out _ (Ext.refl _)
    refine RnL.cons (fun g2 A_ W_ hs_ => ?_) ?_
    · have q14_ := hs_.val 0 rfl rfl rfl
      refine Rn.val fun K_ hK_ => ?_
      go_simp
      refine (rprim_as a pa HPA.out _ (HG.out.ext (HX2.out.drew.trans hs_.1)) HIA.out.bd HZA.out).mono ?_; rintro e W9_ ⟨rfl, e9_⟩; exact hK_.out _ e9_
    refine RnL.cons (fun g2 A_ W_ hs_ => ?_) ?_
    · have q3_ := (hs_.old 3 (by kernel_rfl) : A_.tmps[3]?.getD undef = .pointer (some ⟨w.heap.size + 1, 0, none⟩))
      have cB1_0 := ((HB1_2.out.drew.ext hs_.1)).cell 0 rfl
      have cB1_1 := ((HB1_2.out.drew.ext hs_.1)).cell 1 rfl
      have cB1_2 := ((HB1_2.out.drew.ext hs_.1)).cell 2 rfl
      have cB1_3 := ((HB1_2.out.drew.ext hs_.1)).cell 3 rfl
      refine Rn.val fun K_ hK_ => ?_
      go_simp
      exact hK_.out _ (Ext.refl _)
    refine RnL.cons (fun g2 A_ W_ hs_ => ?_) ?_
    · have q16_ := hs_.val 2 rfl rfl rfl
      refine Rn.val fun K_ hK_ => ?_
      go_simp
      refine (rprim_as b pb HPB.out _ (HG.out.ext (HX2.out.drew.trans hs_.1)) HIB.out.bd HZB2.out).mono ?_; rintro e W9_ ⟨rfl, e9_⟩; exact hK_.out _ e9_
    refine RnL.cons (fun g2 A_ W_ hs_ => ?_) ?_
    · have q15_ := hs_.val 1 rfl rfl rfl
      have q17_ := hs_.val 3 rfl rfl rfl
      refine Rn.val fun K_ hK_ => ?_
      go_simp
      exact hK_.out _ (Ext.refl _)
    refine RnL.cons (fun g2 A_ W_ hs_ => ?_) ?_
    · have q18_ := hs_.val 4 rfl rfl rfl
      refine Rn.val fun K_ hK_ => ?_
      go_simp
      exact hK_.out _ (Ext.refl _)
    refine RnL.cons (fun g2 A_ W_ hs_ => ?_) ?_
    · refine Rn.val fun K_ hK_ => ?_
      go_simp
      exact hK_.out _ (Ext.refl _)
    exact RnL.nil
  simp only [fs, Kd.value, puts, Act.put, List.setIfInBounds_toArray, List.set_cons_zero, List.set_cons_succ]
  have HX3 : Hid (Ext w w3) := Lib.hid (HX2.out.drew.trans hx_)
  clear hx_ hm_ hne_
  go_wp2
  go_ret2
  exact ⟨rfl, HX3.out⟩

set_option maxRecDepth 100000 in
set_option maxHeartbeats 2000000 in
theorem prim17_a (a b : Q4) (e : Int) (w : World) (g : Gd w) (hea : QErr a e) (he : e ≠ 0) : Calls Tryz.prog 5 #[.agg #[.int .i64 a.w, .int .i64 a.x, .int .i64 a.y, .int .i64 a.z], .agg #[.int .i64 b.w, .int .i64 b.x, .int .i64 b.y, .int .i64 b.z]] w (Ret w (.bool true)) := by
  have HEA := Lib.hid hea
  have HG := Lib.hid g
  clear hea g
  have he_n : (e != 0) = true := bne_iff_ne.2 he
  have he_e : (e == 0) = false := beq_eq_false_iff_ne.2 he
  clear he
  go_enter Tryz.func5, Tryz.ntmps5
  go_wp2_with fail
  refine (known17_c _ (HG.out.ext (((Ext.refl w).alloc _).alloc _))).mono ?_; rintro e w1 ⟨rfl, e1⟩
  have HX1 : Hid (Ext w w1) := Lib.hid ((((Ext.refl w).alloc _).alloc _).trans e1)
  have HB0_1 : Hid (Blk w1 (w.heap.size) #[.int .i64 a.w, .int .i64 a.x, .int .i64 a.y, .int .i64 a.z] 22) := Lib.hid (Blk.ext ((Blk.new' (w := _) (cs := #[.int .i64 a.w, .int .i64 a.x, .int .i64 a.y, .int .i64 a.z]) (t := 22) (by first | rfl | (simp only [World.size_alloc]; done) | (simp only [World.size_alloc]; omega) | simp)).alloc _) e1)
  have HGEB0 : Hid (w.heap.size ≤ w.heap.size) := Lib.hid (by first | omega | (simp only []; omega) | (simp; omega))
  clear e1
  have c0_0 := HB0_1.out.cell 0 rfl
  have c0_1 := HB0_1.out.cell 1 rfl
  have c0_2 := HB0_1.out.cell 2 rfl
  have c0_3 := HB0_1.out.cell 3 rfl
  go_wp2_with fail
  refine (lchk_l _ (HG.out.ext HX1.out) HEA.out).mono ?_; rintro e w2 ⟨rfl, e2⟩
  have HX2 : Hid (Ext w w2) := Lib.hid (HX1.out.trans e2)
  clear e2 c0_0 c0_1 c0_2 c0_3
  go_wp2_with fail
  refine (known17_c _ (HG.out.ext HX2.out)).mono ?_; rintro e w3 ⟨rfl, e3⟩
  have HX3 : Hid (Ext w w3) := Lib.hid (HX2.out.trans e3)
  clear e3
  go_wp2
  go_ret
  exact ⟨rfl, HX3.out⟩

set_option maxRecDepth 100000 in
set_option maxHeartbeats 2000000 in
theorem prim17_b (a b : Q4) (e : Int) (w : World) (g : Gd w) (hea : QErr a 0) (heb : QErr b e) (he : e ≠ 0) : Calls Tryz.prog 5 #[.agg #[.int .i64 a.w, .int .i64 a.x, .int .i64 a.y, .int .i64 a.z], .agg #[.int .i64 b.w, .int .i64 b.x, .int .i64 b.y, .int .i64 b.z]] w (Ret w (.bool true)) := by
  have HEA := Lib.hid hea
  have HEB := Lib.hid heb
  have HG := Lib.hid g
  clear hea heb g
  have he_n : (e != 0) = true := bne_iff_ne.2 he
  have he_e : (e == 0) = false := beq_eq_false_iff_ne.2 he
  clear he
  go_enter Tryz.func5, Tryz.ntmps5
  go_wp2_with fail
  refine (known17_c _ (HG.out.ext (((Ext.refl w).alloc _).alloc _))).mono ?_; rintro e w1 ⟨rfl, e1⟩
  have HX1 : Hid (Ext w w1) := Lib.hid ((((Ext.refl w).alloc _).alloc _).trans e1)
  have HB0_1 : Hid (Blk w1 (w.heap.size) #[.int .i64 a.w, .int .i64 a.x, .int .i64 a.y, .int .i64 a.z] 22) := Lib.hid (Blk.ext ((Blk.new' (w := _) (cs := #[.int .i64 a.w, .int .i64 a.x, .int .i64 a.y, .int .i64 a.z]) (t := 22) (by first | rfl | (simp only [World.size_alloc]; done) | (simp only [World.size_alloc]; omega) | simp)).alloc _) e1)
  have HB1_1 : Hid (Blk w1 (w.heap.size + 1) #[.int .i64 b.w, .int .i64 b.x, .int .i64 b.y, .int .i64 b.z] 22) := Lib.hid (Blk.ext (Blk.new' (w := _) (cs := #[.int .i64 b.w, .int .i64 b.x, .int .i64 b.y, .int .i64 b.z]) (t := 22) (by first | rfl | (simp only [World.size_alloc]; done) | (simp only [World.size_alloc]; omega) | simp)) e1)
  have HGEB0 : Hid (w.heap.size ≤ w.heap.size) := Lib.hid (by first | omega | (simp only []; omega) | (simp; omega))
  have HGEB1 : Hid (w.heap.size ≤ w.heap.size + 1) := Lib.hid (by first | omega | (simp only []; omega) | (simp; omega))
  clear e1
  have c0_0 := HB0_1.out.cell 0 rfl
  have c0_1 := HB0_1.out.cell 1 rfl
  have c0_2 := HB0_1.out.cell 2 rfl
  have c0_3 := HB0_1.out.cell 3 rfl
  go_wp2_with fail
  refine (lchk_l _ (HG.out.ext HX1.out) HEA.out).mono ?_; rintro e w2 ⟨rfl, e2⟩
  have HX2 : Hid (Ext w w2) := Lib.hid (HX1.out.trans e2)
  have HB1_2 := Lib.hid (Blk.ext HB1_1.out e2)
  clear e2 c0_0 c0_1 c0_2 c0_3
  have c1_0 := HB1_2.out.cell 0 rfl
  have c1_1 := HB1_2.out.cell 1 rfl
  have c1_2 := HB1_2.out.cell 2 rfl
  have c1_3 := HB1_2.out.cell 3 rfl
  go_wp2_with fail
  refine (lchk_l _ (HG.out.ext HX2.out) HEB.out).mono ?_; rintro e w3 ⟨rfl, e3⟩
  have HX3 : Hid (Ext w w3) := Lib.hid (HX2.out.trans e3)
  clear e3 c1_0 c1_1 c1_2 c1_3
  go_wp2_with fail
  refine (known17_c _ (HG.out.ext HX3.out)).mono ?_; rintro e w4 ⟨rfl, e4⟩
  have HX4 : Hid (Ext w w4) := Lib.hid (HX3.out.trans e4)
  clear e4
  go_wp2
  go_ret
  exact ⟨rfl, HX4.out⟩

set_option maxRecDepth 100000 in
set_option maxHeartbeats 16000000 in
theorem prim17_ok (a b pa pb qa : Q4) (zb : Bool) (w : World) (g : Gd w) (hea : QErr a 0) (heb : QErr b 0) (hia : Q4In a) (hib : Q4In b) (hza : ¬ a.zero) (hzb : ¬ b.zero) (hpa : prim4 a = pa) (hpb : prim4 b = pb) (hzz : (pa.w == pb.w && (pa.x == pb.x && (pa.y == pb.y && pa.z == pb.z))) = zb) (hqa : prim4 (conj4 a) = qa) : Calls Tryz.prog 5 #[.agg #[.int .i64 a.w, .int .i64 a.x, .int .i64 a.y, .int .i64 a.z], .agg #[.int .i64 b.w, .int .i64 b.x, .int .i64 b.y, .int .i64 b.z]] w (Ret w (.bool true)) := by
  have HEA := Lib.hid hea
  have HEB := Lib.hid heb
  have HIA := Lib.hid hia
  have HIB := Lib.hid hib
  have HZA := Lib.hid hza
  have HZB2 := Lib.hid hzb
  have HPA := Lib.hid hpa
  have HPB := Lib.hid hpb
  have HZB := Lib.hid hzz
  have HQA := Lib.hid hqa
  have HG := Lib.hid g
  clear hea heb hia hib hza hzb hpa hpb hzz hqa g
  have HI0 := HIA.out; have bw := HI0.w; have bx := HI0.x; have by_ := HI0.y; have bz := HI0.z; clear HI0
  have eqx : ∀ W, (Op.equalIn 10000 22 (.agg #[.int .i64 pa.w, .int .i64 pa.x, .int .i64 pa.y, .int .i64 pa.z]) (.agg #[.int .i64 pb.w, .int .i64 pb.x, .int .i64 pb.y, .int .i64 pb.z])).run Tryz.prog W = .ok zb W := fun W => by rw [eq4, HZB.out]
  have eqa0 := eq4 pa.w pa.x pa.y pa.z pa.w pa.x pa.y pa.z
  have eqa1 := eq4 qa.w qa.x qa.y qa.z qa.w qa.x qa.y qa.z
  go_enter Tryz.func5, Tryz.ntmps5
  go_wp2_with fail
  refine (known17_c _ (HG.out.ext (((Ext.refl w).alloc _).alloc _))).mono ?_; rintro e w1 ⟨rfl, e1⟩
  have HX1 : Hid (Ext w w1) := Lib.hid ((((Ext.refl w).alloc _).alloc _).trans e1)
  have HB0_1 : Hid (Blk w1 (w.heap.size) #[.int .i64 a.w, .int .i64 a.x, .int .i64 a.y, .int .i64 a.z] 22) := Lib.hid (Blk.ext ((Blk.new' (w := _) (cs := #[.int .i64 a.w, .int .i64 a.x, .int .i64 a.y, .int .i64 a.z]) (t := 22) (by first | rfl | (simp only [World.size_alloc]; done) | (simp only [World.size_alloc]; omega) | simp)).alloc _) e1)
  have HB1_1 : Hid (Blk w1 (w.heap.size + 1) #[.int .i64 b.w, .int .i64 b.x, .int .i64 b.y, .int .i64 b.z] 22) := Lib.hid (Blk.ext (Blk.new' (w := _) (cs := #[.int .i64 b.w, .int .i64 b.x, .int .i64 b.y, .int .i64 b.z]) (t := 22) (by first | rfl | (simp only [World.size_alloc]; done) | (simp only [World.size_alloc]; omega) | simp)) e1)
  have HGEB0 : Hid (w.heap.size ≤ w.heap.size) := Lib.hid (by first | omega | (simp only []; omega) | (simp; omega))
  have HGEB1 : Hid (w.heap.size ≤ w.heap.size + 1) := Lib.hid (by first | omega | (simp only []; omega) | (simp; omega))
  clear e1
  have c0_0 := HB0_1.out.cell 0 rfl
  have c0_1 := HB0_1.out.cell 1 rfl
  have c0_2 := HB0_1.out.cell 2 rfl
  have c0_3 := HB0_1.out.cell 3 rfl
  go_wp2_with fail
  refine (lchk_l _ (HG.out.ext HX1.out) HEA.out).mono ?_; rintro e w2 ⟨rfl, e2⟩
  have HX2 : Hid (Ext w w2) := Lib.hid (HX1.out.trans e2)
  have HB0_2 := Lib.hid (Blk.ext HB0_1.out e2)
  have HB1_2 := Lib.hid (Blk.ext HB1_1.out e2)
  clear e2 c0_0 c0_1 c0_2 c0_3
  have c1_0 := HB1_2.out.cell 0 rfl
  have c1_1 := HB1_2.out.cell 1 rfl
  have c1_2 := HB1_2.out.cell 2 rfl
  have c1_3 := HB1_2.out.cell 3 rfl
  go_wp2_with fail
  refine (lchk_l _ (HG.out.ext HX2.out) HEB.out).mono ?_; rintro e w3 ⟨rfl, e3⟩
  have HX3 : Hid (Ext w w3) := Lib.hid (HX2.out.trans e3)
  have HB0_3 := Lib.hid (Blk.ext HB0_2.out e3)
  have HB1_3 := Lib.hid (Blk.ext HB1_2.out e3)
  clear e3 c1_0 c1_1 c1_2 c1_3
  have c0_0 := HB0_3.out.cell 0 rfl
  have c0_1 := HB0_3.out.cell 1 rfl
  have c0_2 := HB0_3.out.cell 2 rfl
  have c0_3 := HB0_3.out.cell 3 rfl
  go_wp2_with fail
  refine (rpri_c a pa _ (HG.out.ext HX3.out) HEA.out HIA.out HZA.out HPA.out).mono ?_; rintro e w4 ⟨rfl, e4⟩
  have HX4 : Hid (Ext w w4) := Lib.hid (HX3.out.trans e4)
  have HB0_4 := Lib.hid (Blk.ext HB0_3.out e4)
  have HB1_4 := Lib.hid (Blk.ext HB1_3.out e4)
  clear e4 c0_0 c0_1 c0_2 c0_3
  go_upto_region 4 with fail
  refine wp_name (fun W => Ext w W ∧ Blk W (w.heap.size) #[.int .i64 a.w, .int .i64 a.x, .int .i64 a.y, .int .i64 a.z] 22 ∧ Blk W (w.heap.size + 1) #[.int .i64 b.w, .int .i64 b.x, .int .i64 b.y, .int .i64 b.z] 22 ∧ Blk W (w4.heap.size) #[.int .i64 pa.w, .int .i64 pa.x, .int .i64 pa.y, .int .i64 pa.z] 22) ⟨(HX4.out.alloc _), (HB0_4.out.alloc _), (HB1_4.out.alloc _), (Blk.new' (w := _) (cs := #[.int .i64 pa.w, .int .i64 pa.x, .int .i64 pa.y, .int .i64 pa.z]) (t := 22) (by first | rfl | (simp only [World.size_alloc]; done) | (simp only [World.size_alloc]; omega) | simp))⟩ ?_
  rintro w5 ⟨e5, bB0_5, bB1_5, bB2_5⟩
  have HX5 := Lib.hid e5; have HB0_5 := Lib.hid bB0_5; have HB1_5 := Lib.hid bB1_5; have HB2_5 := Lib.hid bB2_5
  have HGEB2 : Hid (w.heap.size ≤ w4.heap.size) := Lib.hid (by have := HX4.out.size; first | omega | (simp only []; omega) | (simp; omega))
  clear e5 bB0_5 bB1_5 bB2_5
  have c0_0 := HB0_5.out.cell 0 rfl
  have c0_1 := HB0_5.out.cell 1 rfl
  have c0_2 := HB0_5.out.cell 2 rfl
  have c0_3 := HB0_5.out.cell 3 rfl
  go_wp2_with fail
  refine (rinv_c a qa _ (HG.out.ext HX5.out) HEA.out HIA.out HZA.out HQA.out).mono ?_; rintro e w6 ⟨rfl, e6⟩
  have HX6 : Hid (Ext w w6) := Lib.hid (HX5.out.trans e6)
  have HB0_6 := Lib.hid (Blk.ext HB0_5.out e6)
  have HB1_6 := Lib.hid (Blk.ext HB1_5.out e6)
  have HB2_6 := Lib.hid (Blk.ext HB2_5.out e6)
  clear e6 c0_0 c0_1 c0_2 c0_3
  go_upto_region 5 with fail
  refine wp_name (fun W => Ext w W ∧ Blk W (w.heap.size) #[.int .i64 a.w, .int .i64 a.x, .int .i64 a.y, .int .i64 a.z] 22 ∧ Blk W (w.heap.size + 1) #[.int .i64 b.w, .int .i64 b.x, .int .i64 b.y, .int .i64 b.z] 22 ∧ Blk W (w4.heap.size) #[.int .i64 pa.w, .int .i64 pa.x, .int .i64 pa.y, .int .i64 pa.z] 22 ∧ Blk W (w6.heap.size) #[.int .i64 qa.w, .int .i64 qa.x, .int .i64 qa.y, .int .i64 qa.z] 22) ⟨(HX6.out.alloc _), (HB0_6.out.alloc _), (HB1_6.out.alloc _), (HB2_6.out.alloc _), (Blk.new' (w := _) (cs := #[.int .i64 qa.w, .int .i64 qa.x, .int .i64 qa.y, .int .i64 qa.z]) (t := 22) (by first | rfl | (simp only [World.size_alloc]; done) | (simp only [World.size_alloc]; omega) | simp))⟩ ?_
  rintro w7 ⟨e7, bB0_7, bB1_7, bB2_7, bB3_7⟩
  have HX7 := Lib.hid e7; have HB0_7 := Lib.hid bB0_7; have HB1_7 := Lib.hid bB1_7; have HB2_7 := Lib.hid bB2_7; have HB3_7 := Lib.hid bB3_7
  have HGEB3 : Hid (w.heap.size ≤ w6.heap.size) := Lib.hid (by have := HX6.out.size; first | omega | (simp only []; omega) | (simp; omega))
  clear e7 bB0_7 bB1_7 bB2_7 bB3_7
  have c0_0 := HB0_7.out.cell 0 rfl
  have c0_1 := HB0_7.out.cell 1 rfl
  have c0_2 := HB0_7.out.cell 2 rfl
  have c0_3 := HB0_7.out.cell 3 rfl
  have c1_0 := HB1_7.out.cell 0 rfl
  have c1_1 := HB1_7.out.cell 1 rfl
  have c1_2 := HB1_7.out.cell 2 rfl
  have c1_3 := HB1_7.out.cell 3 rfl
  go_wp2_with fail
  refine (rsame_c a b pa pb zb _ (HG.out.ext HX7.out) HEA.out HEB.out HIA.out HIB.out HZA.out HZB2.out HPA.out HPB.out HZB.out).mono ?_; rintro e w8 ⟨rfl, e8⟩
  have HX8 : Hid (Ext w w8) := Lib.hid (HX7.out.trans e8)
  have HB0_8 := Lib.hid (Blk.ext HB0_7.out e8)
  have HB1_8 := Lib.hid (Blk.ext HB1_7.out e8)
  have HB2_8 := Lib.hid (Blk.ext HB2_7.out e8)
  have HB3_8 := Lib.hid (Blk.ext HB3_7.out e8)
  clear e8 c0_0 c0_1 c0_2 c0_3 c1_0 c1_1 c1_2 c1_3
  go_wp2_with fail
  refine wp_name (fun W => Ext w W ∧ Blk W (w.heap.size) #[.int .i64 a.w, .int .i64 a.x, .int .i64 a.y, .int .i64 a.z] 22 ∧ Blk W (w.heap.size + 1) #[.int .i64 b.w, .int .i64 b.x, .int .i64 b.y, .int .i64 b.z] 22 ∧ Blk W (w4.heap.size) #[.int .i64 pa.w, .int .i64 pa.x, .int .i64 pa.y, .int .i64 pa.z] 22 ∧ Blk W (w6.heap.size) #[.int .i64 qa.w, .int .i64 qa.x, .int .i64 qa.y, .int .i64 qa.z] 22) ⟨HX8.out, HB0_8.out, HB1_8.out, HB2_8.out, HB3_8.out⟩ ?_
  rintro w9 ⟨e9, bB0_9, bB1_9, bB2_9, bB3_9⟩
  have HX9 := Lib.hid e9; have HB0_9 := Lib.hid bB0_9; have HB1_9 := Lib.hid bB1_9; have HB2_9 := Lib.hid bB2_9; have HB3_9 := Lib.hid bB3_9
  clear e9 bB0_9 bB1_9 bB2_9 bB3_9
  refine region_lin [.val (.int .i64 0), .val (.bool true), .val (.bool true), .val (.agg #[.int .i64 pa.w, .int .i64 pa.x, .int .i64 pa.y, .int .i64 pa.z]), .val (.agg #[.int .i64 a.w, .int .i64 a.x, .int .i64 a.y, .int .i64 a.z]), .val (.agg #[.int .i64 pa.w, .int .i64 pa.x, .int .i64 pa.y, .int .i64 pa.z]), .val (.bool true), .val (.bool true), .val (.bool true), .val (.int .i64 0), .val (.bool true), .val (.bool true), .val (.bool true), .val (.agg #[.int .i64 qa.w, .int .i64 qa.x, .int .i64 qa.y, .int .i64 qa.z]), .val (.pointer (some ⟨w.heap.size, 0, none⟩)), .val (.int .i64 a.w), .val (.pointer (some ⟨w.heap.size, 1, none⟩)), .val (.int .i64 a.x), .val (.int .i64 (-a.x)), .val (.pointer (some ⟨w.heap.size, 2, none⟩)), .val (.int .i64 a.y), .val (.int .i64 (-a.y)), .val (.pointer (some ⟨w.heap.size, 3, none⟩)), .val (.int .i64 a.z), .val (.int .i64 (-a.z)), .val (.agg #[.int .i64 a.w, .int .i64 (-a.x), .int .i64 (-a.y), .int .i64 (-a.z)]), .val (.agg #[.int .i64 qa.w, .int .i64 qa.x, .int .i64 qa.y, .int .i64 qa.z]), .val (.bool true), .val (.bool true), .val (.bool true), .val (.int .i64 0), .val (.bool true), .val (.bool true), .val (.bool true), .val (.bool zb), .val (.agg #[.int .i64 a.w, .int .i64 a.x, .int .i64 a.y, .int .i64 a.z]), .val (.agg #[.int .i64 pa.w, .int .i64 pa.x, .int .i64 pa.y, .int .i64 pa.z]), .val (.agg #[.int .i64 b.w, .int .i64 b.x, .int .i64 b.y, .int .i64 b.z]), .val (.agg #[.int .i64 pb.w, .int .i64 pb.x, .int .i64 pb.y, .int .i64 pb.z]), .val (.bool zb), .val (.bool true), .val (.bool true), .val (.bool true)] (by kernel_rfl) (by kernel_rfl) (by kernel_rfl) ?_ (fun g9 w10 hx_ hm_ hne_ => ?_)
  · skip
    refine RnL.cons (fun g9 A_ W_ hs_ => ?_) ?_
    · have q6_ := (hs_.old 6 (by kernel_rfl) : A_.tmps[6]?.getD undef = .int .i64 0)
      refine Rn.val fun K_ hK_ => ?_
      go_simp
      exact hK_.out _ (Ext.refl _)
    refine RnL.cons (fun g9 A_ W_ hs_ => ?_) ?_
    · have q40_ := hs_.val 0 rfl rfl rfl
      refine Rn.val fun K_ hK_ => ?_
      go_simp
      exact hK_.out _ (Ext.refl _)
    refine RnL.cons (fun g9 A_ W_ hs_ => ?_) ?_
    · have q41_ := hs_.val 1 rfl rfl rfl
      refine Rn.val fun K_ hK_ => ?_
      go_simp
      exact hK_.out _ (Ext.refl _)
    refine RnL.cons (fun g9 A_ W_ hs_ => ?_) ?_
    · have q5_ := (hs_.old 5 (by kernel_rfl) : A_.tmps[5]?.getD undef = .pointer (some ⟨w4.heap.size, 0, none⟩))
      have cB2_0 := ((HB2_9.out.drew.ext hs_.1)).cell 0 rfl
      have cB2_1 := ((HB2_9.out.drew.ext hs_.1)).cell 1 rfl
      have cB2_2 := ((HB2_9.out.drew.ext hs_.1)).cell 2 rfl
      have cB2_3 := ((HB2_9.out.drew.ext hs_.1)).cell 3 rfl
      refine Rn.val fun K_ hK_ => ?_
      go_simp
      exact hK_.out _ (Ext.refl _)
    refine RnL.cons (fun g9 A_ W_ hs_ => ?_) ?_
    · have q2_ := (hs_.old 2 (by kernel_rfl) : A_.tmps[2]?.getD undef = .pointer (some ⟨w.heap.size, 0, none⟩))
      have cB0_0 := ((HB0_9.out.drew.ext hs_.1)).cell 0 rfl
      have cB0_1 := ((HB0_9.out.drew.ext hs_.1)).cell 1 rfl
      have cB0_2 := ((HB0_9.out.drew.ext hs_.1)).cell 2 rfl
      have cB0_3 := ((HB0_9.out.drew.ext hs_.1)).cell 3 rfl
      refine Rn.val fun K_ hK_ => ?_
      go_simp
      exact hK_.out _ (Ext.refl _)
    refine RnL.cons (fun g9 A_ W_ hs_ => ?_) ?_
    · have q44_ := hs_.val 4 rfl rfl rfl
      refine Rn.val fun K_ hK_ => ?_
      go_simp
      refine (lprim_as a pa HPA.out _ (HG.out.ext (HX9.out.drew.trans hs_.1)) HIA.out.bd HZA.out).mono ?_; rintro e W9_ ⟨rfl, e9_⟩; exact hK_.out _ e9_
    refine RnL.cons (fun g9 A_ W_ hs_ => ?_) ?_
    · have q43_ := hs_.val 3 rfl rfl rfl
      have q45_ := hs_.val 5 rfl rfl rfl
      refine Rn.val fun K_ hK_ => ?_
      go_simp
      exact hK_.out _ (Ext.refl _)
    refine RnL.cons (fun g9 A_ W_ hs_ => ?_) ?_
    · have q42_ := hs_.val 2 rfl rfl rfl
      have q46_ := hs_.val 6 rfl rfl rfl
      refine Rn.val fun K_ hK_ => ?_
      go_simp
      exact hK_.out _ (Ext.refl _)
    refine RnL.cons (fun g9 A_ W_ hs_ => ?_) ?_
    · have q47_ := hs_.val 7 rfl rfl rfl
      refine Rn.val fun K_ hK_ => ?_
      go_simp
      exact hK_.out _ (Ext.refl _)
    refine RnL.cons (fun g9 A_ W_ hs_ => ?_) ?_
    · have q8_ := (hs_.old 8 (by kernel_rfl) : A_.tmps[8]?.getD undef = .int .i64 0)
      refine Rn.val fun K_ hK_ => ?_
      go_simp
      exact hK_.out _ (Ext.refl _)
    refine RnL.cons (fun g9 A_ W_ hs_ => ?_) ?_
    · have q49_ := hs_.val 9 rfl rfl rfl
      refine Rn.val fun K_ hK_ => ?_
      go_simp
      exact hK_.out _ (Ext.refl _)
    refine RnL.cons (fun g9 A_ W_ hs_ => ?_) ?_
    · have q48_ := hs_.val 8 rfl rfl rfl
      have q50_ := hs_.val 10 rfl rfl rfl
      refine Rn.val fun K_ hK_ => ?_
      go_simp
      exact hK_.out _ (Ext.refl _)
    refine RnL.cons (fun g9 A_ W_ hs_ => ?_) ?_
    · have q51_ := hs_.val 11 rfl rfl rfl
      refine Rn.val fun K_ hK_ => ?_
      go_simp
      exact hK_.out _ (Ext.refl _)
    refine RnL.cons (fun g9 A_ W_ hs_ => ?_) ?_
    · have q7_ := (hs_.old 7 (by kernel_rfl) : A_.tmps[7]?.getD undef = .pointer (some ⟨w6.heap.size, 0, none⟩))
      have cB3_0 := ((HB3_9.out.drew.ext hs_.1)).cell 0 rfl
      have cB3_1 := ((HB3_9.out.drew.ext hs_.1)).cell 1 rfl
      have cB3_2 := ((HB3_9.out.drew.ext hs_.1)).cell 2 rfl
      have cB3_3 := ((HB3_9.out.drew.ext hs_.1)).cell 3 rfl
      refine Rn.val fun K_ hK_ => ?_
      go_simp
      exact hK_.out _ (Ext.refl _)
    refine RnL.cons (fun g9 A_ W_ hs_ => ?_) ?_
    · have q2_ := (hs_.old 2 (by kernel_rfl) : A_.tmps[2]?.getD undef = .pointer (some ⟨w.heap.size, 0, none⟩))
      refine Rn.val fun K_ hK_ => ?_
      go_simp
      exact hK_.out _ (Ext.refl _)
    refine RnL.cons (fun g9 A_ W_ hs_ => ?_) ?_
    · have q54_ := hs_.val 14 rfl rfl rfl
      have cB0_0 := ((HB0_9.out.drew.ext hs_.1)).cell 0 rfl
      refine Rn.val fun K_ hK_ => ?_
      go_simp
      exact hK_.out _ (Ext.refl _)
    refine RnL.cons (fun g9 A_ W_ hs_ => ?_) ?_
    · have q2_ := (hs_.old 2 (by kernel_rfl) : A_.tmps[2]?.getD undef = .pointer (some ⟨w.heap.size, 0, none⟩))
      refine Rn.val fun K_ hK_ => ?_
      go_simp
      exact hK_.out _ (Ext.refl _)
    refine RnL.cons (fun g9 A_ W_ hs_ => ?_) ?_
    · have q56_ := hs_.val 16 rfl rfl rfl
      have cB0_1 := ((HB0_9.out.drew.ext hs_.1)).cell 1 rfl
      refine Rn.val fun K_ hK_ => ?_
      go_simp
      exact hK_.out _ (Ext.refl _)
    refine RnL.cons (fun g9 A_ W_ hs_ => ?_) ?_
    · have q57_ := hs_.val 17 rfl rfl rfl
      refine Rn.val fun K_ hK_ => ?_
      go_simp
      try go_bits
      exact hK_.out _ (Ext.refl _)
    refine RnL.cons (fun g9 A_ W_ hs_ => ?_) ?_
    · have q2_ := (hs_.old 2 (by kernel_rfl) : A_.tmps[2]?.getD undef = .pointer (some ⟨w.heap.size, 0, none⟩))
      refine Rn.val fun K_ hK_ => ?_
      go_simp
      exact hK_.out _ (Ext.refl _)
    refine RnL.cons (fun g9 A_ W_ hs_ => ?_) ?_
    · have q59_ := hs_.val 19 rfl rfl rfl
      have cB0_2 := ((HB0_9.out.drew.ext hs_.1)).cell 2 rfl
      refine Rn.val fun K_ hK_ => ?_
      go_simp
      exact hK_.out _ (Ext.refl _)
    refine RnL.cons (fun g9 A_ W_ hs_ => ?_) ?_
    · have q60_ := hs_.val 20 rfl rfl rfl
      refine Rn.val fun K_ hK_ => ?_
      go_simp
      try go_bits
      exact hK_.out _ (Ext.refl _)
    refine RnL.cons (fun g9 A_ W_ hs_ => ?_) ?_
    · have q2_ := (hs_.old 2 (by kernel_rfl) : A_.tmps[2]?.getD undef = .pointer (some ⟨w.heap.size, 0, none⟩))
      refine Rn.val fun K_ hK_ => ?_
      go_simp
      exact hK_.out _ (Ext.refl _)
    refine RnL.cons (fun g9 A_ W_ hs_ => ?_) ?_
    · have q62_ := hs_.val 22 rfl rfl rfl
      have cB0_3 := ((HB0_9.out.drew.ext hs_.1)).cell 3 rfl
      refine Rn.val fun K_ hK_ => ?_
      go_simp
      exact hK_.out _ (Ext.refl _)
    refine RnL.cons (fun g9 A_ W_ hs_ => ?_) ?_
    · have q63_ := hs_.val 23 rfl rfl rfl
      refine Rn.val fun K_ hK_ => ?_
      go_simp
      try go_bits
      exact hK_.out _ (Ext.refl _)
    refine RnL.cons (fun g9 A_ W_ hs_ => ?_) ?_
    · have q55_ := hs_.val 15 rfl rfl rfl
      have q58_ := hs_.val 18 rfl rfl rfl
      have q61_ := hs_.val 21 rfl rfl rfl
      have q64_ := hs_.val 24 rfl rfl rfl
      refine Rn.val fun K_ hK_ => ?_
      go_simp
      exact hK_.out _ (Ext.refl _)
    refine RnL.cons (fun g9 A_ W_ hs_ => ?_) ?_
    · have q65_ := hs_.val 25 rfl rfl rfl
      refine Rn.val fun K_ hK_ => ?_
      go_simp
      refine (lprimc_as a qa HQA.out _ (HG.out.ext (HX9.out.drew.trans hs_.1)) HIA.out HZA.out).mono ?_; rintro e W9_ ⟨rfl, e9_⟩; exact hK_.out _ e9_
    refine RnL.cons (fun g9 A_ W_ hs_ => ?_) ?_
    · have q53_ := hs_.val 13 rfl rfl rfl
      have q66_ := hs_.val 26 rfl rfl rfl
      refine Rn.val fun K_ hK_ => ?_
      go_simp
      exact hK_.out _ (Ext.refl _)
    refine RnL.cons (fun g9 A_ W_ hs_ => ?_) ?_
    · have q52_ := hs_.val 12 rfl rfl rfl
      have q67_ := hs_.val 27 rfl rfl rfl
      refine Rn.val fun K_ hK_ => ?_
      go_simp
      exact hK_.out _ (Ext.refl _)
    refine RnL.cons (fun g9 A_ W_ hs_ => ?_) ?_
    · have q68_ := hs_.val 28 rfl rfl rfl
      refine Rn.val fun K_ hK_ => ?_
      go_simp
      exact hK_.out _ (Ext.refl _)
    refine RnL.cons (fun g9 A_ W_ hs_ => ?_) ?_
    · have q10_ := (hs_.old 10 (by kernel_rfl) : A_.tmps[10]?.getD undef = .int .i64 0)
      refine Rn.val fun K_ hK_ => ?_
      go_simp
      exact hK_.out _ (Ext.refl _)
    refine RnL.cons (fun g9 A_ W_ hs_ => ?_) ?_
    · have q70_ := hs_.val 30 rfl rfl rfl
      refine Rn.val fun K_ hK_ => ?_
      go_simp
      exact hK_.out _ (Ext.refl _)
    refine RnL.cons (fun g9 A_ W_ hs_ => ?_) ?_
    · have q69_ := hs_.val 29 rfl rfl rfl
      have q71_ := hs_.val 31 rfl rfl rfl
      refine Rn.val fun K_ hK_ => ?_
      go_simp
      exact hK_.out _ (Ext.refl _)
    refine RnL.cons (fun g9 A_ W_ hs_ => ?_) ?_
    · have q72_ := hs_.val 32 rfl rfl rfl
      refine Rn.val fun K_ hK_ => ?_
      go_simp
      exact hK_.out _ (Ext.refl _)
    refine RnL.cons (fun g9 A_ W_ hs_ => ?_) ?_
    · have q9_ := (hs_.old 9 (by kernel_rfl) : A_.tmps[9]?.getD undef = .bool zb)
      refine Rn.val fun K_ hK_ => ?_
      go_simp
      exact hK_.out _ (Ext.refl _)
    refine RnL.cons (fun g9 A_ W_ hs_ => ?_) ?_
    · have q2_ := (hs_.old 2 (by kernel_rfl) : A_.tmps[2]?.getD undef = .pointer (some ⟨w.heap.size, 0, none⟩))
      have cB0_0 := ((HB0_9.out.drew.ext hs_.1)).cell 0 rfl
      have cB0_1 := ((HB0_9.out.drew.ext hs_.1)).cell 1 rfl
      have cB0_2 := ((HB0_9.out.drew.ext hs_.1)).cell 2 rfl
      have cB0_3 := ((HB0_9.out.drew.ext hs_.1)).cell 3 rfl
      refine Rn.val fun K_ hK_ => ?_
      go_simp
      exact hK_.out _ (Ext.refl _)
    refine RnL.cons (fun g9 A_ W_ hs_ => ?_) ?_
    · have q75_ := hs_.val 35 rfl rfl rfl
      refine Rn.val fun K_ hK_ => ?_
      go_simp
      refine (lprim_as a pa HPA.out _ (HG.out.ext (HX9.out.drew.trans hs_.1)) HIA.out.bd HZA.out).mono ?_; rintro e W9_ ⟨rfl, e9_⟩; exact hK_.out _ e9_
    refine RnL.cons (fun g9 A_ W_ hs_ => ?_) ?_
    · have q3_ := (hs_.old 3 (by kernel_rfl) : A_.tmps[3]?.getD undef = .pointer (some ⟨w.heap.size + 1, 0, none⟩))
      have cB1_0 := ((HB1_9.out.drew.ext hs_.1)).cell 0 rfl
      have cB1_1 := ((HB1_9.out.drew.ext hs_.1)).cell 1 rfl
      have cB1_2 := ((HB1_9.out.drew.ext hs_.1)).cell 2 rfl
      have cB1_3 := ((HB1_9.out.drew.ext hs_.1)).cell 3 rfl
      refine Rn.val fun K_ hK_ => ?_
      go_simp
      exact hK_.out _ (Ext.refl _)
    refine RnL.cons (fun g9 A_ W_ hs_ => ?_) ?_
    · have q77_ := hs_.val 37 rfl rfl rfl
      refine Rn.val fun K_ hK_ => ?_
      go_simp
      refine (lprim_as b pb HPB.out _ (HG.out.ext (HX9.out.drew.trans hs_.1)) HIB.out.bd HZB2.out).mono ?_; rintro e W9_ ⟨rfl, e9_⟩; exact hK_.out _ e9_
    refine RnL.cons (fun g9 A_ W_ hs_ => ?_) ?_
    · have q76_ := hs_.val 36 rfl rfl rfl
      have q78_ := hs_.val 38 rfl rfl rfl
      refine Rn.val fun K_ hK_ => ?_
      go_simp
      exact hK_.out _ (Ext.refl _)
    refine RnL.cons (fun g9 A_ W_ hs_ => ?_) ?_
    · have q74_ := hs_.val 34 rfl rfl rfl
      have q79_ := hs_.val 39 rfl rfl rfl
      refine Rn.val fun K_ hK_ => ?_
      go_simp
      exact hK_.out _ (Ext.refl _)
    refine RnL.cons (fun g9 A_ W_ hs_ => ?_) ?_
    · have q73_ := hs_.val 33 rfl rfl rfl
      have q80_ := hs_.val 40 rfl rfl rfl
      refine Rn.val fun K_ hK_ => ?_
      go_simp
      exact hK_.out _ (Ext.refl _)
    refine RnL.cons (fun g9 A_ W_ hs_ => ?_) ?_
    · have q81_ := hs_.val 41 rfl rfl rfl
      refine Rn.val fun K_ hK_ => ?_
      go_simp
      exact hK_.out _ (Ext.refl _)
    exact RnL.nil
  simp only [fs, Kd.value, puts, Act.put, List.setIfInBounds_toArray, List.set_cons_zero, List.set_cons_succ]
  have HX10 : Hid (Ext w w10) := Lib.hid (HX9.out.drew.trans hx_)
  clear hx_ hm_ hne_
  go_wp2
  go_ret
  exact ⟨rfl, HX10.out⟩

theorem prim17_walk (a b : Q4) (w : World) (g : Gd w) : Calls Tryz.prog 5 #[.agg #[.int .i64 a.w, .int .i64 a.x, .int .i64 a.y, .int .i64 a.z], .agg #[.int .i64 b.w, .int .i64 b.x, .int .i64 b.y, .int .i64 b.z]] w (Ret w (.bool true)) := by
  obtain ⟨ea, ha⟩ := qerr_ex a
  obtain ⟨eb, hb⟩ := qerr_ex b
  by_cases h0 : ea = 0
  · subst h0
    by_cases h1 : eb = 0
    · subst h1
      exact prim17_ok a b _ _ _ _ w g ha hb (qerr_ok ha rfl).1 (qerr_ok hb rfl).1 (qerr_ok ha rfl).2 (qerr_ok hb rfl).2 rfl rfl rfl rfl
    · exact prim17_b a b eb w g ha hb h1
  · exact prim17_a a b ea w g ha h0
end Go.Proofs.YtjeimihnoiephaaGreatDoor
