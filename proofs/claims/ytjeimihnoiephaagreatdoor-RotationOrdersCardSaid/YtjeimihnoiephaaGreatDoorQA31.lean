/- Part 31 of the proof: M6. -/
import Derived.Test.YtjeimihnoiephaaGreatDoorQA1
import Derived.Test.YtjeimihnoiephaaGreatDoorQA2
import Derived.Test.YtjeimihnoiephaaGreatDoorQA3
import Derived.Test.YtjeimihnoiephaaGreatDoorQA4
import Derived.Test.YtjeimihnoiephaaGreatDoorQA5
import Derived.Test.YtjeimihnoiephaaGreatDoorQA6
import Derived.Test.YtjeimihnoiephaaGreatDoorQA7
import Derived.Test.YtjeimihnoiephaaGreatDoorQA8
import Derived.Test.YtjeimihnoiephaaGreatDoorQA9
import Derived.Test.YtjeimihnoiephaaGreatDoorQA10
import Derived.Test.YtjeimihnoiephaaGreatDoorQA11
import Derived.Test.YtjeimihnoiephaaGreatDoorQA12
import Derived.Test.YtjeimihnoiephaaGreatDoorQA13
import Derived.Test.YtjeimihnoiephaaGreatDoorQA14
import Derived.Test.YtjeimihnoiephaaGreatDoorQA15
import Derived.Test.YtjeimihnoiephaaGreatDoorQA16
import Derived.Test.YtjeimihnoiephaaGreatDoorQA17
import Derived.Test.YtjeimihnoiephaaGreatDoorQA18
import Derived.Test.YtjeimihnoiephaaGreatDoorQA19
import Derived.Test.YtjeimihnoiephaaGreatDoorQA20
import Derived.Test.YtjeimihnoiephaaGreatDoorQA21
import Derived.Test.YtjeimihnoiephaaGreatDoorQA22
import Derived.Test.YtjeimihnoiephaaGreatDoorQA23
import Derived.Test.YtjeimihnoiephaaGreatDoorQA24
import Derived.Test.YtjeimihnoiephaaGreatDoorQA25
import Derived.Test.YtjeimihnoiephaaGreatDoorQA26
import Derived.Test.YtjeimihnoiephaaGreatDoorQA27
import Derived.Test.YtjeimihnoiephaaGreatDoorQA28
import Derived.Test.YtjeimihnoiephaaGreatDoorQA29
import Derived.Test.YtjeimihnoiephaaGreatDoorQA30
namespace Go.Proofs.YtjeimihnoiephaaGreatDoor
open Go Go.RowKit
set_option linter.unusedVariables false
set_option maxRecDepth 100000 in
set_option maxHeartbeats 2000000 in
theorem rsq_c (t : Q4) (w : World) (g : Gd w) (hi : Q4In t) : Calls Tryz.prog 42 #[.agg #[.int .i64 t.w, .int .i64 t.x, .int .i64 t.y, .int .i64 t.z]] w (Ret w (.tuple #[.int .i64 (t.w * t.w), .int .i64 (t.x * t.x + t.y * t.y + t.z * t.z)])) := by
  have HG := Lib.hid g
  clear g
  have bw := hi.w; have bx := hi.x; have by_ := hi.y; have bz := hi.z
  have pww := mul_bd bw bw
  have pxx := mul_bd bx bx
  have pyy := mul_bd by_ by_
  have pzz := mul_bd bz bz
  have sw := sqi_nonneg t.w; have sx := sqi_nonneg t.x; have sy := sqi_nonneg t.y; have sz := sqi_nonneg t.z
  clear hi
  go_enter Tryz.func42, Tryz.ntmps42
  go_wp2_with fail
  refine wp_name (fun W => Ext w W ∧ Blk W (w.heap.size) #[.int .i64 t.w, .int .i64 t.x, .int .i64 t.y, .int .i64 t.z] 22) ⟨((Ext.refl w).alloc _), (Blk.new' (w := _) (cs := #[.int .i64 t.w, .int .i64 t.x, .int .i64 t.y, .int .i64 t.z]) (t := 22) (by first | rfl | (simp only [World.size_alloc]; done) | (simp only [World.size_alloc]; omega) | simp))⟩ ?_
  rintro w1 ⟨e1, bB0_1⟩
  have HX1 := Lib.hid e1; have HB0_1 := Lib.hid bB0_1
  have HGEB0 : Hid (w.heap.size ≤ w.heap.size) := Lib.hid (by first | omega | (simp only []; omega) | (simp; omega))
  clear e1 bB0_1
  refine region_lin [.val (.pointer (some ⟨w.heap.size, 0, none⟩)), .val (.int .i64 t.w), .val (.pointer (some ⟨w.heap.size, 0, none⟩)), .val (.int .i64 t.w), .val (.int .i64 (t.w * t.w)), .val (.pointer (some ⟨w.heap.size, 1, none⟩)), .val (.int .i64 t.x), .val (.pointer (some ⟨w.heap.size, 1, none⟩)), .val (.int .i64 t.x), .val (.int .i64 (t.x * t.x)), .val (.pointer (some ⟨w.heap.size, 2, none⟩)), .val (.int .i64 t.y), .val (.pointer (some ⟨w.heap.size, 2, none⟩)), .val (.int .i64 t.y), .val (.int .i64 (t.y * t.y)), .val (.int .i64 (t.x * t.x + t.y * t.y)), .val (.pointer (some ⟨w.heap.size, 3, none⟩)), .val (.int .i64 t.z), .val (.pointer (some ⟨w.heap.size, 3, none⟩)), .val (.int .i64 t.z), .val (.int .i64 (t.z * t.z)), .val (.int .i64 (t.x * t.x + t.y * t.y + t.z * t.z)), .val (.int .i64 (t.w * t.w)), .val (.int .i64 (t.x * t.x + t.y * t.y + t.z * t.z))] (by kernel_rfl) (by kernel_rfl) (by kernel_rfl) ?_ (fun g1 w2 hx_ hm_ hne_ => ?_)
  · skip
    refine RnL.cons (fun g1 A_ W_ hs_ => ?_) ?_
    · have q1_ := (hs_.old 1 (by kernel_rfl) : A_.tmps[1]?.getD undef = .pointer (some ⟨w.heap.size, 0, none⟩))
      refine Rn.val fun K_ hK_ => ?_
      go_simp
      exact hK_.out _ (Ext.refl _)
    refine RnL.cons (fun g1 A_ W_ hs_ => ?_) ?_
    · have q4_ := hs_.val 0 rfl rfl rfl
      have cB0_0 := ((HB0_1.out.drew.ext hs_.1)).cell 0 rfl
      refine Rn.val fun K_ hK_ => ?_
      go_simp
      exact hK_.out _ (Ext.refl _)
    refine RnL.cons (fun g1 A_ W_ hs_ => ?_) ?_
    · have q1_ := (hs_.old 1 (by kernel_rfl) : A_.tmps[1]?.getD undef = .pointer (some ⟨w.heap.size, 0, none⟩))
      refine Rn.val fun K_ hK_ => ?_
      go_simp
      exact hK_.out _ (Ext.refl _)
    refine RnL.cons (fun g1 A_ W_ hs_ => ?_) ?_
    · have q6_ := hs_.val 2 rfl rfl rfl
      have cB0_0 := ((HB0_1.out.drew.ext hs_.1)).cell 0 rfl
      refine Rn.val fun K_ hK_ => ?_
      go_simp
      exact hK_.out _ (Ext.refl _)
    refine RnL.cons (fun g1 A_ W_ hs_ => ?_) ?_
    · have q5_ := hs_.val 1 rfl rfl rfl
      have q7_ := hs_.val 3 rfl rfl rfl
      refine Rn.val fun K_ hK_ => ?_
      go_simp
      try go_bits
      exact hK_.out _ (Ext.refl _)
    refine RnL.cons (fun g1 A_ W_ hs_ => ?_) ?_
    · have q1_ := (hs_.old 1 (by kernel_rfl) : A_.tmps[1]?.getD undef = .pointer (some ⟨w.heap.size, 0, none⟩))
      refine Rn.val fun K_ hK_ => ?_
      go_simp
      exact hK_.out _ (Ext.refl _)
    refine RnL.cons (fun g1 A_ W_ hs_ => ?_) ?_
    · have q9_ := hs_.val 5 rfl rfl rfl
      have cB0_1 := ((HB0_1.out.drew.ext hs_.1)).cell 1 rfl
      refine Rn.val fun K_ hK_ => ?_
      go_simp
      exact hK_.out _ (Ext.refl _)
    refine RnL.cons (fun g1 A_ W_ hs_ => ?_) ?_
    · have q1_ := (hs_.old 1 (by kernel_rfl) : A_.tmps[1]?.getD undef = .pointer (some ⟨w.heap.size, 0, none⟩))
      refine Rn.val fun K_ hK_ => ?_
      go_simp
      exact hK_.out _ (Ext.refl _)
    refine RnL.cons (fun g1 A_ W_ hs_ => ?_) ?_
    · have q11_ := hs_.val 7 rfl rfl rfl
      have cB0_1 := ((HB0_1.out.drew.ext hs_.1)).cell 1 rfl
      refine Rn.val fun K_ hK_ => ?_
      go_simp
      exact hK_.out _ (Ext.refl _)
    refine RnL.cons (fun g1 A_ W_ hs_ => ?_) ?_
    · have q10_ := hs_.val 6 rfl rfl rfl
      have q12_ := hs_.val 8 rfl rfl rfl
      refine Rn.val fun K_ hK_ => ?_
      go_simp
      try go_bits
      exact hK_.out _ (Ext.refl _)
    refine RnL.cons (fun g1 A_ W_ hs_ => ?_) ?_
    · have q1_ := (hs_.old 1 (by kernel_rfl) : A_.tmps[1]?.getD undef = .pointer (some ⟨w.heap.size, 0, none⟩))
      refine Rn.val fun K_ hK_ => ?_
      go_simp
      exact hK_.out _ (Ext.refl _)
    refine RnL.cons (fun g1 A_ W_ hs_ => ?_) ?_
    · have q14_ := hs_.val 10 rfl rfl rfl
      have cB0_2 := ((HB0_1.out.drew.ext hs_.1)).cell 2 rfl
      refine Rn.val fun K_ hK_ => ?_
      go_simp
      exact hK_.out _ (Ext.refl _)
    refine RnL.cons (fun g1 A_ W_ hs_ => ?_) ?_
    · have q1_ := (hs_.old 1 (by kernel_rfl) : A_.tmps[1]?.getD undef = .pointer (some ⟨w.heap.size, 0, none⟩))
      refine Rn.val fun K_ hK_ => ?_
      go_simp
      exact hK_.out _ (Ext.refl _)
    refine RnL.cons (fun g1 A_ W_ hs_ => ?_) ?_
    · have q16_ := hs_.val 12 rfl rfl rfl
      have cB0_2 := ((HB0_1.out.drew.ext hs_.1)).cell 2 rfl
      refine Rn.val fun K_ hK_ => ?_
      go_simp
      exact hK_.out _ (Ext.refl _)
    refine RnL.cons (fun g1 A_ W_ hs_ => ?_) ?_
    · have q15_ := hs_.val 11 rfl rfl rfl
      have q17_ := hs_.val 13 rfl rfl rfl
      refine Rn.val fun K_ hK_ => ?_
      go_simp
      try go_bits
      exact hK_.out _ (Ext.refl _)
    refine RnL.cons (fun g1 A_ W_ hs_ => ?_) ?_
    · have q13_ := hs_.val 9 rfl rfl rfl
      have q18_ := hs_.val 14 rfl rfl rfl
      refine Rn.val fun K_ hK_ => ?_
      go_simp
      try go_bits
      exact hK_.out _ (Ext.refl _)
    refine RnL.cons (fun g1 A_ W_ hs_ => ?_) ?_
    · have q1_ := (hs_.old 1 (by kernel_rfl) : A_.tmps[1]?.getD undef = .pointer (some ⟨w.heap.size, 0, none⟩))
      refine Rn.val fun K_ hK_ => ?_
      go_simp
      exact hK_.out _ (Ext.refl _)
    refine RnL.cons (fun g1 A_ W_ hs_ => ?_) ?_
    · have q20_ := hs_.val 16 rfl rfl rfl
      have cB0_3 := ((HB0_1.out.drew.ext hs_.1)).cell 3 rfl
      refine Rn.val fun K_ hK_ => ?_
      go_simp
      exact hK_.out _ (Ext.refl _)
    refine RnL.cons (fun g1 A_ W_ hs_ => ?_) ?_
    · have q1_ := (hs_.old 1 (by kernel_rfl) : A_.tmps[1]?.getD undef = .pointer (some ⟨w.heap.size, 0, none⟩))
      refine Rn.val fun K_ hK_ => ?_
      go_simp
      exact hK_.out _ (Ext.refl _)
    refine RnL.cons (fun g1 A_ W_ hs_ => ?_) ?_
    · have q22_ := hs_.val 18 rfl rfl rfl
      have cB0_3 := ((HB0_1.out.drew.ext hs_.1)).cell 3 rfl
      refine Rn.val fun K_ hK_ => ?_
      go_simp
      exact hK_.out _ (Ext.refl _)
    refine RnL.cons (fun g1 A_ W_ hs_ => ?_) ?_
    · have q21_ := hs_.val 17 rfl rfl rfl
      have q23_ := hs_.val 19 rfl rfl rfl
      refine Rn.val fun K_ hK_ => ?_
      go_simp
      try go_bits
      exact hK_.out _ (Ext.refl _)
    refine RnL.cons (fun g1 A_ W_ hs_ => ?_) ?_
    · have q19_ := hs_.val 15 rfl rfl rfl
      have q24_ := hs_.val 20 rfl rfl rfl
      refine Rn.val fun K_ hK_ => ?_
      go_simp
      try go_bits
      exact hK_.out _ (Ext.refl _)
    refine RnL.cons (fun g1 A_ W_ hs_ => ?_) ?_
    · have q8_ := hs_.val 4 rfl rfl rfl
      refine Rn.val fun K_ hK_ => ?_
      go_simp
      exact hK_.out _ (Ext.refl _)
    refine RnL.cons (fun g1 A_ W_ hs_ => ?_) ?_
    · have q25_ := hs_.val 21 rfl rfl rfl
      refine Rn.val fun K_ hK_ => ?_
      go_simp
      exact hK_.out _ (Ext.refl _)
    exact RnL.nil
  simp only [fs, Kd.value, puts, Act.put, List.setIfInBounds_toArray, List.set_cons_zero, List.set_cons_succ]
  have HX2 : Hid (Ext w w2) := Lib.hid (HX1.out.drew.trans hx_)
  clear hx_ hm_ hne_
  go_wp2
  go_ret2
  exact ⟨rfl, HX2.out⟩

set_option maxRecDepth 100000 in
set_option maxHeartbeats 2000000 in
theorem rord_1 (t : Q4) (W : Int) (w : World) (g : Gd w) (hq : QErr t 0) (hi : Q4In t) (hw : t.w * t.w = W) (hr : t.x * t.x + t.y * t.y + t.z * t.z = 0) (hWp : 0 < W) (hWm : W ≤ 3000000000000) : Calls Tryz.prog 13 #[.agg #[.int .i64 t.w, .int .i64 t.x, .int .i64 t.y, .int .i64 t.z]] w (Ret w (.tuple #[.int .i64 1, .bool true, .int .i64 0])) := by
  have HE := Lib.hid hq
  have HI := Lib.hid hi
  have HWE := Lib.hid hw
  have HRE := Lib.hid hr
  have HG := Lib.hid g
  clear hq hi hw hr g
  have zW : (W == 0) = false := beq_eq_false_iff_ne.2 (by omega)
  go_enter Tryz.func13, Tryz.ntmps13
  go_wp2_with fail
  refine (rchk_l _ (HG.out.ext ((Ext.refl w).alloc _)) HE.out).mono ?_; rintro e w1 ⟨rfl, e1⟩
  have HX1 : Hid (Ext w w1) := Lib.hid (((Ext.refl w).alloc _).trans e1)
  have HB0_1 : Hid (Blk w1 (w.heap.size) #[.int .i64 t.w, .int .i64 t.x, .int .i64 t.y, .int .i64 t.z] 22) := Lib.hid (Blk.ext (Blk.new' (w := _) (cs := #[.int .i64 t.w, .int .i64 t.x, .int .i64 t.y, .int .i64 t.z]) (t := 22) (by first | rfl | (simp only [World.size_alloc]; done) | (simp only [World.size_alloc]; omega) | simp)) e1)
  have HGEB0 : Hid (w.heap.size ≤ w.heap.size) := Lib.hid (by first | omega | (simp only []; omega) | (simp; omega))
  clear e1
  have c0_0 := HB0_1.out.cell 0 rfl
  have c0_1 := HB0_1.out.cell 1 rfl
  have c0_2 := HB0_1.out.cell 2 rfl
  have c0_3 := HB0_1.out.cell 3 rfl
  go_wp2_with fail
  refine ((HWE.out ▸ HRE.out ▸ rsq_c t _ (HG.out.ext HX1.out) HI.out)).mono ?_; rintro e w2 ⟨rfl, e2⟩
  have HX2 : Hid (Ext w w2) := Lib.hid (HX1.out.trans e2)
  clear e2 c0_0 c0_1 c0_2 c0_3
  go_wp2
  go_ret3
  exact ⟨rfl, HX2.out⟩

set_option maxRecDepth 100000 in
set_option maxHeartbeats 2000000 in
theorem rord_2 (t : Q4) (R : Int) (w : World) (g : Gd w) (hq : QErr t 0) (hi : Q4In t) (hw : t.w * t.w = 0) (hr : t.x * t.x + t.y * t.y + t.z * t.z = R) (hRp : 0 < R) (hRm : R ≤ 3000000000000) : Calls Tryz.prog 13 #[.agg #[.int .i64 t.w, .int .i64 t.x, .int .i64 t.y, .int .i64 t.z]] w (Ret w (.tuple #[.int .i64 2, .bool true, .int .i64 0])) := by
  have HE := Lib.hid hq
  have HI := Lib.hid hi
  have HWE := Lib.hid hw
  have HRE := Lib.hid hr
  have HG := Lib.hid g
  clear hq hi hw hr g
  have t1_ : ((R : Int) == 0) = false := beq_eq_false_iff_ne.2 (by omega)
  have zR : (R == 0) = false := beq_eq_false_iff_ne.2 (by omega)
  go_enter Tryz.func13, Tryz.ntmps13
  go_wp2_with fail
  refine (rchk_l _ (HG.out.ext ((Ext.refl w).alloc _)) HE.out).mono ?_; rintro e w1 ⟨rfl, e1⟩
  have HX1 : Hid (Ext w w1) := Lib.hid (((Ext.refl w).alloc _).trans e1)
  have HB0_1 : Hid (Blk w1 (w.heap.size) #[.int .i64 t.w, .int .i64 t.x, .int .i64 t.y, .int .i64 t.z] 22) := Lib.hid (Blk.ext (Blk.new' (w := _) (cs := #[.int .i64 t.w, .int .i64 t.x, .int .i64 t.y, .int .i64 t.z]) (t := 22) (by first | rfl | (simp only [World.size_alloc]; done) | (simp only [World.size_alloc]; omega) | simp)) e1)
  have HGEB0 : Hid (w.heap.size ≤ w.heap.size) := Lib.hid (by first | omega | (simp only []; omega) | (simp; omega))
  clear e1
  have c0_0 := HB0_1.out.cell 0 rfl
  have c0_1 := HB0_1.out.cell 1 rfl
  have c0_2 := HB0_1.out.cell 2 rfl
  have c0_3 := HB0_1.out.cell 3 rfl
  go_wp2_with fail
  refine ((HWE.out ▸ HRE.out ▸ rsq_c t _ (HG.out.ext HX1.out) HI.out)).mono ?_; rintro e w2 ⟨rfl, e2⟩
  have HX2 : Hid (Ext w w2) := Lib.hid (HX1.out.trans e2)
  clear e2 c0_0 c0_1 c0_2 c0_3
  go_wp2
  go_ret3
  exact ⟨rfl, HX2.out⟩

set_option maxRecDepth 100000 in
set_option maxHeartbeats 2000000 in
theorem rord_3 (t : Q4) (W : Int) (w : World) (g : Gd w) (hq : QErr t 0) (hi : Q4In t) (hw : t.w * t.w = W) (hr : t.x * t.x + t.y * t.y + t.z * t.z = 3 * W) (hWp : 0 < W) (hWm : W ≤ 3000000000000) : Calls Tryz.prog 13 #[.agg #[.int .i64 t.w, .int .i64 t.x, .int .i64 t.y, .int .i64 t.z]] w (Ret w (.tuple #[.int .i64 3, .bool true, .int .i64 0])) := by
  have HE := Lib.hid hq
  have HI := Lib.hid hi
  have HWE := Lib.hid hw
  have HRE := Lib.hid hr
  have HG := Lib.hid g
  clear hq hi hw hr g
  have t1_ : ((3 * W : Int) == 0) = false := beq_eq_false_iff_ne.2 (by omega)
  have t2_ : ((W : Int) == 0) = false := beq_eq_false_iff_ne.2 (by omega)
  have zW : (W == 0) = false := beq_eq_false_iff_ne.2 (by omega)
  go_enter Tryz.func13, Tryz.ntmps13
  go_wp2_with fail
  refine (rchk_l _ (HG.out.ext ((Ext.refl w).alloc _)) HE.out).mono ?_; rintro e w1 ⟨rfl, e1⟩
  have HX1 : Hid (Ext w w1) := Lib.hid (((Ext.refl w).alloc _).trans e1)
  have HB0_1 : Hid (Blk w1 (w.heap.size) #[.int .i64 t.w, .int .i64 t.x, .int .i64 t.y, .int .i64 t.z] 22) := Lib.hid (Blk.ext (Blk.new' (w := _) (cs := #[.int .i64 t.w, .int .i64 t.x, .int .i64 t.y, .int .i64 t.z]) (t := 22) (by first | rfl | (simp only [World.size_alloc]; done) | (simp only [World.size_alloc]; omega) | simp)) e1)
  have HGEB0 : Hid (w.heap.size ≤ w.heap.size) := Lib.hid (by first | omega | (simp only []; omega) | (simp; omega))
  clear e1
  have c0_0 := HB0_1.out.cell 0 rfl
  have c0_1 := HB0_1.out.cell 1 rfl
  have c0_2 := HB0_1.out.cell 2 rfl
  have c0_3 := HB0_1.out.cell 3 rfl
  go_wp2_with fail
  refine ((HWE.out ▸ HRE.out ▸ rsq_c t _ (HG.out.ext HX1.out) HI.out)).mono ?_; rintro e w2 ⟨rfl, e2⟩
  have HX2 : Hid (Ext w w2) := Lib.hid (HX1.out.trans e2)
  clear e2 c0_0 c0_1 c0_2 c0_3
  go_wp2
  go_ret3
  exact ⟨rfl, HX2.out⟩

set_option maxRecDepth 100000 in
set_option maxHeartbeats 2000000 in
theorem rord_4 (t : Q4) (W : Int) (w : World) (g : Gd w) (hq : QErr t 0) (hi : Q4In t) (hw : t.w * t.w = W) (hr : t.x * t.x + t.y * t.y + t.z * t.z = W) (hWp : 0 < W) (hWm : W ≤ 3000000000000) : Calls Tryz.prog 13 #[.agg #[.int .i64 t.w, .int .i64 t.x, .int .i64 t.y, .int .i64 t.z]] w (Ret w (.tuple #[.int .i64 4, .bool true, .int .i64 0])) := by
  have HE := Lib.hid hq
  have HI := Lib.hid hi
  have HWE := Lib.hid hw
  have HRE := Lib.hid hr
  have HG := Lib.hid g
  clear hq hi hw hr g
  have t1_ : ((W : Int) == 0) = false := beq_eq_false_iff_ne.2 (by omega)
  have t2_ : ((W : Int) == 0) = false := beq_eq_false_iff_ne.2 (by omega)
  have t3_ : ((W : Int) == 3 * W) = false := beq_eq_false_iff_ne.2 (by omega)
  have zW : (W == 0) = false := beq_eq_false_iff_ne.2 (by omega)
  go_enter Tryz.func13, Tryz.ntmps13
  go_wp2_with fail
  refine (rchk_l _ (HG.out.ext ((Ext.refl w).alloc _)) HE.out).mono ?_; rintro e w1 ⟨rfl, e1⟩
  have HX1 : Hid (Ext w w1) := Lib.hid (((Ext.refl w).alloc _).trans e1)
  have HB0_1 : Hid (Blk w1 (w.heap.size) #[.int .i64 t.w, .int .i64 t.x, .int .i64 t.y, .int .i64 t.z] 22) := Lib.hid (Blk.ext (Blk.new' (w := _) (cs := #[.int .i64 t.w, .int .i64 t.x, .int .i64 t.y, .int .i64 t.z]) (t := 22) (by first | rfl | (simp only [World.size_alloc]; done) | (simp only [World.size_alloc]; omega) | simp)) e1)
  have HGEB0 : Hid (w.heap.size ≤ w.heap.size) := Lib.hid (by first | omega | (simp only []; omega) | (simp; omega))
  clear e1
  have c0_0 := HB0_1.out.cell 0 rfl
  have c0_1 := HB0_1.out.cell 1 rfl
  have c0_2 := HB0_1.out.cell 2 rfl
  have c0_3 := HB0_1.out.cell 3 rfl
  go_wp2_with fail
  refine ((HWE.out ▸ HRE.out ▸ rsq_c t _ (HG.out.ext HX1.out) HI.out)).mono ?_; rintro e w2 ⟨rfl, e2⟩
  have HX2 : Hid (Ext w w2) := Lib.hid (HX1.out.trans e2)
  clear e2 c0_0 c0_1 c0_2 c0_3
  go_wp2
  go_ret3
  exact ⟨rfl, HX2.out⟩

set_option maxRecDepth 100000 in
set_option maxHeartbeats 2000000 in
theorem rord_6 (t : Q4) (R : Int) (w : World) (g : Gd w) (hq : QErr t 0) (hi : Q4In t) (hw : t.w * t.w = 3 * R) (hr : t.x * t.x + t.y * t.y + t.z * t.z = R) (hRp : 0 < R) (hRm : R ≤ 3000000000000) : Calls Tryz.prog 13 #[.agg #[.int .i64 t.w, .int .i64 t.x, .int .i64 t.y, .int .i64 t.z]] w (Ret w (.tuple #[.int .i64 6, .bool true, .int .i64 0])) := by
  have HE := Lib.hid hq
  have HI := Lib.hid hi
  have HWE := Lib.hid hw
  have HRE := Lib.hid hr
  have HG := Lib.hid g
  clear hq hi hw hr g
  have t1_ : ((R : Int) == 0) = false := beq_eq_false_iff_ne.2 (by omega)
  have t2_ : ((3 * R : Int) == 0) = false := beq_eq_false_iff_ne.2 (by omega)
  have t3_ : ((R : Int) == 3 * (3 * R)) = false := beq_eq_false_iff_ne.2 (by omega)
  have t4_ : ((R : Int) == 3 * R) = false := beq_eq_false_iff_ne.2 (by omega)
  have zR : (R == 0) = false := beq_eq_false_iff_ne.2 (by omega)
  go_enter Tryz.func13, Tryz.ntmps13
  go_wp2_with fail
  refine (rchk_l _ (HG.out.ext ((Ext.refl w).alloc _)) HE.out).mono ?_; rintro e w1 ⟨rfl, e1⟩
  have HX1 : Hid (Ext w w1) := Lib.hid (((Ext.refl w).alloc _).trans e1)
  have HB0_1 : Hid (Blk w1 (w.heap.size) #[.int .i64 t.w, .int .i64 t.x, .int .i64 t.y, .int .i64 t.z] 22) := Lib.hid (Blk.ext (Blk.new' (w := _) (cs := #[.int .i64 t.w, .int .i64 t.x, .int .i64 t.y, .int .i64 t.z]) (t := 22) (by first | rfl | (simp only [World.size_alloc]; done) | (simp only [World.size_alloc]; omega) | simp)) e1)
  have HGEB0 : Hid (w.heap.size ≤ w.heap.size) := Lib.hid (by first | omega | (simp only []; omega) | (simp; omega))
  clear e1
  have c0_0 := HB0_1.out.cell 0 rfl
  have c0_1 := HB0_1.out.cell 1 rfl
  have c0_2 := HB0_1.out.cell 2 rfl
  have c0_3 := HB0_1.out.cell 3 rfl
  go_wp2_with fail
  refine ((HWE.out ▸ HRE.out ▸ rsq_c t _ (HG.out.ext HX1.out) HI.out)).mono ?_; rintro e w2 ⟨rfl, e2⟩
  have HX2 : Hid (Ext w w2) := Lib.hid (HX1.out.trans e2)
  clear e2 c0_0 c0_1 c0_2 c0_3
  go_wp2
  go_ret3
  exact ⟨rfl, HX2.out⟩

set_option maxRecDepth 100000 in
set_option maxHeartbeats 2000000 in
theorem rord_0 (t : Q4) (W R : Int) (w : World) (g : Gd w) (hq : QErr t 0) (hi : Q4In t) (hw : t.w * t.w = W) (hr : t.x * t.x + t.y * t.y + t.z * t.z = R) (hWp : 0 < W) (hWm : W ≤ 3000000000000) (hRp : 0 < R) (hRm : R ≤ 3000000000000) (n3 : ¬ R = 3 * W) (n4 : ¬ R = W) (n6 : ¬ W = 3 * R) : Calls Tryz.prog 13 #[.agg #[.int .i64 t.w, .int .i64 t.x, .int .i64 t.y, .int .i64 t.z]] w (Ret w (.tuple #[.int .i64 0, .bool false, .int .i64 0])) := by
  have HE := Lib.hid hq
  have HI := Lib.hid hi
  have HWE := Lib.hid hw
  have HRE := Lib.hid hr
  have HG := Lib.hid g
  clear hq hi hw hr g
  have t1_ : ((R : Int) == 0) = false := beq_eq_false_iff_ne.2 (by omega)
  have t2_ : ((W : Int) == 0) = false := beq_eq_false_iff_ne.2 (by omega)
  have t3_ : ((R : Int) == 3 * W) = false := beq_eq_false_iff_ne.2 (by omega)
  have t4_ : ((R : Int) == W) = false := beq_eq_false_iff_ne.2 (by omega)
  have t5_ : ((W : Int) == 3 * R) = false := beq_eq_false_iff_ne.2 (by omega)
  have zW : (W == 0) = false := beq_eq_false_iff_ne.2 (by omega)
  have zR : (R == 0) = false := beq_eq_false_iff_ne.2 (by omega)
  go_enter Tryz.func13, Tryz.ntmps13
  go_wp2_with fail
  refine (rchk_l _ (HG.out.ext ((Ext.refl w).alloc _)) HE.out).mono ?_; rintro e w1 ⟨rfl, e1⟩
  have HX1 : Hid (Ext w w1) := Lib.hid (((Ext.refl w).alloc _).trans e1)
  have HB0_1 : Hid (Blk w1 (w.heap.size) #[.int .i64 t.w, .int .i64 t.x, .int .i64 t.y, .int .i64 t.z] 22) := Lib.hid (Blk.ext (Blk.new' (w := _) (cs := #[.int .i64 t.w, .int .i64 t.x, .int .i64 t.y, .int .i64 t.z]) (t := 22) (by first | rfl | (simp only [World.size_alloc]; done) | (simp only [World.size_alloc]; omega) | simp)) e1)
  have HGEB0 : Hid (w.heap.size ≤ w.heap.size) := Lib.hid (by first | omega | (simp only []; omega) | (simp; omega))
  clear e1
  have c0_0 := HB0_1.out.cell 0 rfl
  have c0_1 := HB0_1.out.cell 1 rfl
  have c0_2 := HB0_1.out.cell 2 rfl
  have c0_3 := HB0_1.out.cell 3 rfl
  go_wp2_with fail
  refine ((HWE.out ▸ HRE.out ▸ rsq_c t _ (HG.out.ext HX1.out) HI.out)).mono ?_; rintro e w2 ⟨rfl, e2⟩
  have HX2 : Hid (Ext w w2) := Lib.hid (HX1.out.trans e2)
  clear e2 c0_0 c0_1 c0_2 c0_3
  go_wp2
  go_ret3
  exact ⟨rfl, HX2.out⟩

set_option maxRecDepth 100000 in
set_option maxHeartbeats 2000000 in
theorem orders17_e (t : Q4) (e : Int) (w : World) (g : Gd w) (hq : QErr t e) (he : e ≠ 0) : Calls Tryz.prog 3 #[.agg #[.int .i64 t.w, .int .i64 t.x, .int .i64 t.y, .int .i64 t.z]] w (Ret w (.bool true)) := by
  have HE := Lib.hid hq
  have HG := Lib.hid g
  clear hq g
  have he_n : (e != 0) = true := bne_iff_ne.2 he
  have he_e : (e == 0) = false := beq_eq_false_iff_ne.2 he
  clear he
  go_enter Tryz.func3, Tryz.ntmps3
  go_wp2_with fail
  refine (known17_c _ (HG.out.ext ((Ext.refl w).alloc _))).mono ?_; rintro e w1 ⟨rfl, e1⟩
  have HX1 : Hid (Ext w w1) := Lib.hid (((Ext.refl w).alloc _).trans e1)
  have HB0_1 : Hid (Blk w1 (w.heap.size) #[.int .i64 t.w, .int .i64 t.x, .int .i64 t.y, .int .i64 t.z] 22) := Lib.hid (Blk.ext (Blk.new' (w := _) (cs := #[.int .i64 t.w, .int .i64 t.x, .int .i64 t.y, .int .i64 t.z]) (t := 22) (by first | rfl | (simp only [World.size_alloc]; done) | (simp only [World.size_alloc]; omega) | simp)) e1)
  have HGEB0 : Hid (w.heap.size ≤ w.heap.size) := Lib.hid (by first | omega | (simp only []; omega) | (simp; omega))
  clear e1
  have c0_0 := HB0_1.out.cell 0 rfl
  have c0_1 := HB0_1.out.cell 1 rfl
  have c0_2 := HB0_1.out.cell 2 rfl
  have c0_3 := HB0_1.out.cell 3 rfl
  go_wp2_with fail
  refine (lchk_l _ (HG.out.ext HX1.out) HE.out).mono ?_; rintro e w2 ⟨rfl, e2⟩
  have HX2 : Hid (Ext w w2) := Lib.hid (HX1.out.trans e2)
  clear e2 c0_0 c0_1 c0_2 c0_3
  go_wp2_with fail
  refine (known17_c _ (HG.out.ext HX2.out)).mono ?_; rintro e w3 ⟨rfl, e3⟩
  have HX3 : Hid (Ext w w3) := Lib.hid (HX2.out.trans e3)
  clear e3
  go_wp2
  go_ret
  exact ⟨rfl, HX3.out⟩

set_option maxRecDepth 100000 in
set_option maxHeartbeats 8000000 in
theorem orders17_1 (t : Q4) (W : Int) (w : World) (g : Gd w) (hq : QErr t 0) (hi : Q4In t) (hw : t.w * t.w = W) (hr : t.x * t.x + t.y * t.y + t.z * t.z = 0) (hWp : 0 < W) (hWm : W ≤ 3000000000000) : Calls Tryz.prog 3 #[.agg #[.int .i64 t.w, .int .i64 t.x, .int .i64 t.y, .int .i64 t.z]] w (Ret w (.bool true)) := by
  have HE := Lib.hid hq
  have HG := Lib.hid g
  clear hq g
  have bw := hi.w; have bx := hi.x; have by_ := hi.y; have bz := hi.z
  have pww := mul_bd bw bw
  have pxx := mul_bd bx bx
  have pyy := mul_bd by_ by_
  have pzz := mul_bd bz bz
  have sw := sqi_nonneg t.w; have sx := sqi_nonneg t.x; have sy := sqi_nonneg t.y; have sz := sqi_nonneg t.z
  obtain ⟨S, hS⟩ : ∃ S, t.w * t.w + t.x * t.x + t.y * t.y + t.z * t.z = S := ⟨_, rfl⟩
  obtain ⟨S2, hS2⟩ : ∃ x, 2 * S = x := ⟨_, rfl⟩
  obtain ⟨S3, hS3⟩ : ∃ x, 3 * S = x := ⟨_, rfl⟩
  obtain ⟨S4, hS4⟩ : ∃ x, 4 * S = x := ⟨_, rfl⟩
  have h4a : 4 * t.w * t.w = 4 * (t.w * t.w) := Int.mul_assoc 4 t.w t.w
  have h4 : 4 * t.w * t.w = S4 := by omega
  have bS : 0 < S ∧ S ≤ 4000000000000 := by omega
  have bS2 : S2 ≤ 8000000000000 ∧ 0 < S2 := by omega
  have bS3 : S3 ≤ 12000000000000 ∧ 0 < S3 := by omega
  have bS4 : S4 ≤ 16000000000000 ∧ 0 < S4 := by omega
  have bA : 0 ≤ 4 * t.w * t.w ∧ 4 * t.w * t.w ≤ 4000000000000 := by omega
  have HI := Lib.hid hi; have HWE := Lib.hid hw; have HRE := Lib.hid hr
  have HWP := Lib.hid hWp; have HWM := Lib.hid hWm
  clear hi hw hr h4a
  go_enter Tryz.func3, Tryz.ntmps3
  go_wp2_with fail
  refine (known17_c _ (HG.out.ext ((Ext.refl w).alloc _))).mono ?_; rintro e w1 ⟨rfl, e1⟩
  have HX1 : Hid (Ext w w1) := Lib.hid (((Ext.refl w).alloc _).trans e1)
  have HB0_1 : Hid (Blk w1 (w.heap.size) #[.int .i64 t.w, .int .i64 t.x, .int .i64 t.y, .int .i64 t.z] 22) := Lib.hid (Blk.ext (Blk.new' (w := _) (cs := #[.int .i64 t.w, .int .i64 t.x, .int .i64 t.y, .int .i64 t.z]) (t := 22) (by first | rfl | (simp only [World.size_alloc]; done) | (simp only [World.size_alloc]; omega) | simp)) e1)
  have HGEB0 : Hid (w.heap.size ≤ w.heap.size) := Lib.hid (by first | omega | (simp only []; omega) | (simp; omega))
  clear e1
  have c0_0 := HB0_1.out.cell 0 rfl
  have c0_1 := HB0_1.out.cell 1 rfl
  have c0_2 := HB0_1.out.cell 2 rfl
  have c0_3 := HB0_1.out.cell 3 rfl
  go_wp2_with fail
  refine (lchk_l _ (HG.out.ext HX1.out) HE.out).mono ?_; rintro e w2 ⟨rfl, e2⟩
  have HX2 : Hid (Ext w w2) := Lib.hid (HX1.out.trans e2)
  have HB0_2 := Lib.hid (Blk.ext HB0_1.out e2)
  clear e2 c0_0 c0_1 c0_2 c0_3
  have c0_0 := HB0_2.out.cell 0 rfl
  have c0_1 := HB0_2.out.cell 1 rfl
  have c0_2 := HB0_2.out.cell 2 rfl
  have c0_3 := HB0_2.out.cell 3 rfl
  go_wp2_with fail
  refine (rord_1 t W _ (HG.out.ext HX2.out) HE.out HI.out HWE.out HRE.out HWP.out HWM.out).mono ?_; rintro e w3 ⟨rfl, e3⟩
  have HX3 : Hid (Ext w w3) := Lib.hid (HX2.out.trans e3)
  have HB0_3 := Lib.hid (Blk.ext HB0_2.out e3)
  clear e3 c0_0 c0_1 c0_2 c0_3
  have c0_0 := HB0_3.out.cell 0 rfl
  have c0_1 := HB0_3.out.cell 1 rfl
  have c0_2 := HB0_3.out.cell 2 rfl
  have c0_3 := HB0_3.out.cell 3 rfl
  go_wp2
  go_ret
  exact ⟨rfl, HX3.out⟩

set_option maxRecDepth 100000 in
set_option maxHeartbeats 8000000 in
theorem orders17_2 (t : Q4) (R : Int) (w : World) (g : Gd w) (hq : QErr t 0) (hi : Q4In t) (hw : t.w * t.w = 0) (hr : t.x * t.x + t.y * t.y + t.z * t.z = R) (hRp : 0 < R) (hRm : R ≤ 3000000000000) : Calls Tryz.prog 3 #[.agg #[.int .i64 t.w, .int .i64 t.x, .int .i64 t.y, .int .i64 t.z]] w (Ret w (.bool true)) := by
  have HE := Lib.hid hq
  have HG := Lib.hid g
  clear hq g
  have bw := hi.w; have bx := hi.x; have by_ := hi.y; have bz := hi.z
  have pww := mul_bd bw bw
  have pxx := mul_bd bx bx
  have pyy := mul_bd by_ by_
  have pzz := mul_bd bz bz
  have sw := sqi_nonneg t.w; have sx := sqi_nonneg t.x; have sy := sqi_nonneg t.y; have sz := sqi_nonneg t.z
  obtain ⟨S, hS⟩ : ∃ S, t.w * t.w + t.x * t.x + t.y * t.y + t.z * t.z = S := ⟨_, rfl⟩
  obtain ⟨S2, hS2⟩ : ∃ x, 2 * S = x := ⟨_, rfl⟩
  obtain ⟨S3, hS3⟩ : ∃ x, 3 * S = x := ⟨_, rfl⟩
  obtain ⟨S4, hS4⟩ : ∃ x, 4 * S = x := ⟨_, rfl⟩
  have h4a : 4 * t.w * t.w = 4 * (t.w * t.w) := Int.mul_assoc 4 t.w t.w
  have h4 : 4 * t.w * t.w = 0 := by omega
  have t1_ : ((0 : Int) == S4) = false := beq_eq_false_iff_ne.2 (by omega)
  have u1_ : ((S4 : Int) == 0) = false := beq_eq_false_iff_ne.2 (by omega)
  have bS : 0 < S ∧ S ≤ 4000000000000 := by omega
  have bS2 : S2 ≤ 8000000000000 ∧ 0 < S2 := by omega
  have bS3 : S3 ≤ 12000000000000 ∧ 0 < S3 := by omega
  have bS4 : S4 ≤ 16000000000000 ∧ 0 < S4 := by omega
  have bA : 0 ≤ 4 * t.w * t.w ∧ 4 * t.w * t.w ≤ 4000000000000 := by omega
  have HI := Lib.hid hi; have HWE := Lib.hid hw; have HRE := Lib.hid hr
  have HRP := Lib.hid hRp; have HRM := Lib.hid hRm
  clear hi hw hr h4a
  go_enter Tryz.func3, Tryz.ntmps3
  go_wp2_with fail
  refine (known17_c _ (HG.out.ext ((Ext.refl w).alloc _))).mono ?_; rintro e w1 ⟨rfl, e1⟩
  have HX1 : Hid (Ext w w1) := Lib.hid (((Ext.refl w).alloc _).trans e1)
  have HB0_1 : Hid (Blk w1 (w.heap.size) #[.int .i64 t.w, .int .i64 t.x, .int .i64 t.y, .int .i64 t.z] 22) := Lib.hid (Blk.ext (Blk.new' (w := _) (cs := #[.int .i64 t.w, .int .i64 t.x, .int .i64 t.y, .int .i64 t.z]) (t := 22) (by first | rfl | (simp only [World.size_alloc]; done) | (simp only [World.size_alloc]; omega) | simp)) e1)
  have HGEB0 : Hid (w.heap.size ≤ w.heap.size) := Lib.hid (by first | omega | (simp only []; omega) | (simp; omega))
  clear e1
  have c0_0 := HB0_1.out.cell 0 rfl
  have c0_1 := HB0_1.out.cell 1 rfl
  have c0_2 := HB0_1.out.cell 2 rfl
  have c0_3 := HB0_1.out.cell 3 rfl
  go_wp2_with fail
  refine (lchk_l _ (HG.out.ext HX1.out) HE.out).mono ?_; rintro e w2 ⟨rfl, e2⟩
  have HX2 : Hid (Ext w w2) := Lib.hid (HX1.out.trans e2)
  have HB0_2 := Lib.hid (Blk.ext HB0_1.out e2)
  clear e2 c0_0 c0_1 c0_2 c0_3
  have c0_0 := HB0_2.out.cell 0 rfl
  have c0_1 := HB0_2.out.cell 1 rfl
  have c0_2 := HB0_2.out.cell 2 rfl
  have c0_3 := HB0_2.out.cell 3 rfl
  go_wp2_with fail
  refine (rord_2 t R _ (HG.out.ext HX2.out) HE.out HI.out HWE.out HRE.out HRP.out HRM.out).mono ?_; rintro e w3 ⟨rfl, e3⟩
  have HX3 : Hid (Ext w w3) := Lib.hid (HX2.out.trans e3)
  have HB0_3 := Lib.hid (Blk.ext HB0_2.out e3)
  clear e3 c0_0 c0_1 c0_2 c0_3
  have c0_0 := HB0_3.out.cell 0 rfl
  have c0_1 := HB0_3.out.cell 1 rfl
  have c0_2 := HB0_3.out.cell 2 rfl
  have c0_3 := HB0_3.out.cell 3 rfl
  go_wp2
  go_ret
  exact ⟨rfl, HX3.out⟩

set_option maxRecDepth 100000 in
set_option maxHeartbeats 8000000 in
theorem orders17_3 (t : Q4) (W : Int) (w : World) (g : Gd w) (hq : QErr t 0) (hi : Q4In t) (hw : t.w * t.w = W) (hr : t.x * t.x + t.y * t.y + t.z * t.z = 3 * W) (hWp : 0 < W) (hWm : W ≤ 3000000000000) : Calls Tryz.prog 3 #[.agg #[.int .i64 t.w, .int .i64 t.x, .int .i64 t.y, .int .i64 t.z]] w (Ret w (.bool true)) := by
  have HE := Lib.hid hq
  have HG := Lib.hid g
  clear hq g
  have bw := hi.w; have bx := hi.x; have by_ := hi.y; have bz := hi.z
  have pww := mul_bd bw bw
  have pxx := mul_bd bx bx
  have pyy := mul_bd by_ by_
  have pzz := mul_bd bz bz
  have sw := sqi_nonneg t.w; have sx := sqi_nonneg t.x; have sy := sqi_nonneg t.y; have sz := sqi_nonneg t.z
  obtain ⟨S, hS⟩ : ∃ S, t.w * t.w + t.x * t.x + t.y * t.y + t.z * t.z = S := ⟨_, rfl⟩
  obtain ⟨S2, hS2⟩ : ∃ x, 2 * S = x := ⟨_, rfl⟩
  obtain ⟨S3, hS3⟩ : ∃ x, 3 * S = x := ⟨_, rfl⟩
  obtain ⟨S4, hS4⟩ : ∃ x, 4 * S = x := ⟨_, rfl⟩
  have h4a : 4 * t.w * t.w = 4 * (t.w * t.w) := Int.mul_assoc 4 t.w t.w
  have h4 : 4 * t.w * t.w = S := by omega
  have t1_ : ((S : Int) == S4) = false := beq_eq_false_iff_ne.2 (by omega)
  have t2_ : ((S : Int) == 0) = false := beq_eq_false_iff_ne.2 (by omega)
  have bS : 0 < S ∧ S ≤ 4000000000000 := by omega
  have bS2 : S2 ≤ 8000000000000 ∧ 0 < S2 := by omega
  have bS3 : S3 ≤ 12000000000000 ∧ 0 < S3 := by omega
  have bS4 : S4 ≤ 16000000000000 ∧ 0 < S4 := by omega
  have bA : 0 ≤ 4 * t.w * t.w ∧ 4 * t.w * t.w ≤ 4000000000000 := by omega
  have HI := Lib.hid hi; have HWE := Lib.hid hw; have HRE := Lib.hid hr
  have HWP := Lib.hid hWp; have HWM := Lib.hid hWm
  clear hi hw hr h4a
  go_enter Tryz.func3, Tryz.ntmps3
  go_wp2_with fail
  refine (known17_c _ (HG.out.ext ((Ext.refl w).alloc _))).mono ?_; rintro e w1 ⟨rfl, e1⟩
  have HX1 : Hid (Ext w w1) := Lib.hid (((Ext.refl w).alloc _).trans e1)
  have HB0_1 : Hid (Blk w1 (w.heap.size) #[.int .i64 t.w, .int .i64 t.x, .int .i64 t.y, .int .i64 t.z] 22) := Lib.hid (Blk.ext (Blk.new' (w := _) (cs := #[.int .i64 t.w, .int .i64 t.x, .int .i64 t.y, .int .i64 t.z]) (t := 22) (by first | rfl | (simp only [World.size_alloc]; done) | (simp only [World.size_alloc]; omega) | simp)) e1)
  have HGEB0 : Hid (w.heap.size ≤ w.heap.size) := Lib.hid (by first | omega | (simp only []; omega) | (simp; omega))
  clear e1
  have c0_0 := HB0_1.out.cell 0 rfl
  have c0_1 := HB0_1.out.cell 1 rfl
  have c0_2 := HB0_1.out.cell 2 rfl
  have c0_3 := HB0_1.out.cell 3 rfl
  go_wp2_with fail
  refine (lchk_l _ (HG.out.ext HX1.out) HE.out).mono ?_; rintro e w2 ⟨rfl, e2⟩
  have HX2 : Hid (Ext w w2) := Lib.hid (HX1.out.trans e2)
  have HB0_2 := Lib.hid (Blk.ext HB0_1.out e2)
  clear e2 c0_0 c0_1 c0_2 c0_3
  have c0_0 := HB0_2.out.cell 0 rfl
  have c0_1 := HB0_2.out.cell 1 rfl
  have c0_2 := HB0_2.out.cell 2 rfl
  have c0_3 := HB0_2.out.cell 3 rfl
  go_wp2_with fail
  refine (rord_3 t W _ (HG.out.ext HX2.out) HE.out HI.out HWE.out HRE.out HWP.out HWM.out).mono ?_; rintro e w3 ⟨rfl, e3⟩
  have HX3 : Hid (Ext w w3) := Lib.hid (HX2.out.trans e3)
  have HB0_3 := Lib.hid (Blk.ext HB0_2.out e3)
  clear e3 c0_0 c0_1 c0_2 c0_3
  have c0_0 := HB0_3.out.cell 0 rfl
  have c0_1 := HB0_3.out.cell 1 rfl
  have c0_2 := HB0_3.out.cell 2 rfl
  have c0_3 := HB0_3.out.cell 3 rfl
  go_wp2
  go_ret
  exact ⟨rfl, HX3.out⟩

set_option maxRecDepth 100000 in
set_option maxHeartbeats 8000000 in
theorem orders17_4 (t : Q4) (W : Int) (w : World) (g : Gd w) (hq : QErr t 0) (hi : Q4In t) (hw : t.w * t.w = W) (hr : t.x * t.x + t.y * t.y + t.z * t.z = W) (hWp : 0 < W) (hWm : W ≤ 3000000000000) : Calls Tryz.prog 3 #[.agg #[.int .i64 t.w, .int .i64 t.x, .int .i64 t.y, .int .i64 t.z]] w (Ret w (.bool true)) := by
  have HE := Lib.hid hq
  have HG := Lib.hid g
  clear hq g
  have bw := hi.w; have bx := hi.x; have by_ := hi.y; have bz := hi.z
  have pww := mul_bd bw bw
  have pxx := mul_bd bx bx
  have pyy := mul_bd by_ by_
  have pzz := mul_bd bz bz
  have sw := sqi_nonneg t.w; have sx := sqi_nonneg t.x; have sy := sqi_nonneg t.y; have sz := sqi_nonneg t.z
  obtain ⟨S, hS⟩ : ∃ S, t.w * t.w + t.x * t.x + t.y * t.y + t.z * t.z = S := ⟨_, rfl⟩
  obtain ⟨S2, hS2⟩ : ∃ x, 2 * S = x := ⟨_, rfl⟩
  obtain ⟨S3, hS3⟩ : ∃ x, 3 * S = x := ⟨_, rfl⟩
  obtain ⟨S4, hS4⟩ : ∃ x, 4 * S = x := ⟨_, rfl⟩
  have h4a : 4 * t.w * t.w = 4 * (t.w * t.w) := Int.mul_assoc 4 t.w t.w
  have h4 : 4 * t.w * t.w = S2 := by omega
  have t1_ : ((S2 : Int) == S4) = false := beq_eq_false_iff_ne.2 (by omega)
  have t2_ : ((S2 : Int) == 0) = false := beq_eq_false_iff_ne.2 (by omega)
  have t3_ : ((S2 : Int) == S) = false := beq_eq_false_iff_ne.2 (by omega)
  have bS : 0 < S ∧ S ≤ 4000000000000 := by omega
  have bS2 : S2 ≤ 8000000000000 ∧ 0 < S2 := by omega
  have bS3 : S3 ≤ 12000000000000 ∧ 0 < S3 := by omega
  have bS4 : S4 ≤ 16000000000000 ∧ 0 < S4 := by omega
  have bA : 0 ≤ 4 * t.w * t.w ∧ 4 * t.w * t.w ≤ 4000000000000 := by omega
  have HI := Lib.hid hi; have HWE := Lib.hid hw; have HRE := Lib.hid hr
  have HWP := Lib.hid hWp; have HWM := Lib.hid hWm
  clear hi hw hr h4a
  go_enter Tryz.func3, Tryz.ntmps3
  go_wp2_with fail
  refine (known17_c _ (HG.out.ext ((Ext.refl w).alloc _))).mono ?_; rintro e w1 ⟨rfl, e1⟩
  have HX1 : Hid (Ext w w1) := Lib.hid (((Ext.refl w).alloc _).trans e1)
  have HB0_1 : Hid (Blk w1 (w.heap.size) #[.int .i64 t.w, .int .i64 t.x, .int .i64 t.y, .int .i64 t.z] 22) := Lib.hid (Blk.ext (Blk.new' (w := _) (cs := #[.int .i64 t.w, .int .i64 t.x, .int .i64 t.y, .int .i64 t.z]) (t := 22) (by first | rfl | (simp only [World.size_alloc]; done) | (simp only [World.size_alloc]; omega) | simp)) e1)
  have HGEB0 : Hid (w.heap.size ≤ w.heap.size) := Lib.hid (by first | omega | (simp only []; omega) | (simp; omega))
  clear e1
  have c0_0 := HB0_1.out.cell 0 rfl
  have c0_1 := HB0_1.out.cell 1 rfl
  have c0_2 := HB0_1.out.cell 2 rfl
  have c0_3 := HB0_1.out.cell 3 rfl
  go_wp2_with fail
  refine (lchk_l _ (HG.out.ext HX1.out) HE.out).mono ?_; rintro e w2 ⟨rfl, e2⟩
  have HX2 : Hid (Ext w w2) := Lib.hid (HX1.out.trans e2)
  have HB0_2 := Lib.hid (Blk.ext HB0_1.out e2)
  clear e2 c0_0 c0_1 c0_2 c0_3
  have c0_0 := HB0_2.out.cell 0 rfl
  have c0_1 := HB0_2.out.cell 1 rfl
  have c0_2 := HB0_2.out.cell 2 rfl
  have c0_3 := HB0_2.out.cell 3 rfl
  go_wp2_with fail
  refine (rord_4 t W _ (HG.out.ext HX2.out) HE.out HI.out HWE.out HRE.out HWP.out HWM.out).mono ?_; rintro e w3 ⟨rfl, e3⟩
  have HX3 : Hid (Ext w w3) := Lib.hid (HX2.out.trans e3)
  have HB0_3 := Lib.hid (Blk.ext HB0_2.out e3)
  clear e3 c0_0 c0_1 c0_2 c0_3
  have c0_0 := HB0_3.out.cell 0 rfl
  have c0_1 := HB0_3.out.cell 1 rfl
  have c0_2 := HB0_3.out.cell 2 rfl
  have c0_3 := HB0_3.out.cell 3 rfl
  go_wp2
  go_ret
  exact ⟨rfl, HX3.out⟩

set_option maxRecDepth 100000 in
set_option maxHeartbeats 8000000 in
theorem orders17_6 (t : Q4) (R : Int) (w : World) (g : Gd w) (hq : QErr t 0) (hi : Q4In t) (hw : t.w * t.w = 3 * R) (hr : t.x * t.x + t.y * t.y + t.z * t.z = R) (hRp : 0 < R) (hRm : R ≤ 3000000000000) : Calls Tryz.prog 3 #[.agg #[.int .i64 t.w, .int .i64 t.x, .int .i64 t.y, .int .i64 t.z]] w (Ret w (.bool true)) := by
  have HE := Lib.hid hq
  have HG := Lib.hid g
  clear hq g
  have bw := hi.w; have bx := hi.x; have by_ := hi.y; have bz := hi.z
  have pww := mul_bd bw bw
  have pxx := mul_bd bx bx
  have pyy := mul_bd by_ by_
  have pzz := mul_bd bz bz
  have sw := sqi_nonneg t.w; have sx := sqi_nonneg t.x; have sy := sqi_nonneg t.y; have sz := sqi_nonneg t.z
  obtain ⟨S, hS⟩ : ∃ S, t.w * t.w + t.x * t.x + t.y * t.y + t.z * t.z = S := ⟨_, rfl⟩
  obtain ⟨S2, hS2⟩ : ∃ x, 2 * S = x := ⟨_, rfl⟩
  obtain ⟨S3, hS3⟩ : ∃ x, 3 * S = x := ⟨_, rfl⟩
  obtain ⟨S4, hS4⟩ : ∃ x, 4 * S = x := ⟨_, rfl⟩
  have h4a : 4 * t.w * t.w = 4 * (t.w * t.w) := Int.mul_assoc 4 t.w t.w
  have h4 : 4 * t.w * t.w = S3 := by omega
  have t1_ : ((S3 : Int) == S4) = false := beq_eq_false_iff_ne.2 (by omega)
  have t2_ : ((S3 : Int) == 0) = false := beq_eq_false_iff_ne.2 (by omega)
  have t3_ : ((S3 : Int) == S) = false := beq_eq_false_iff_ne.2 (by omega)
  have t4_ : ((S3 : Int) == S2) = false := beq_eq_false_iff_ne.2 (by omega)
  have bS : 0 < S ∧ S ≤ 4000000000000 := by omega
  have bS2 : S2 ≤ 8000000000000 ∧ 0 < S2 := by omega
  have bS3 : S3 ≤ 12000000000000 ∧ 0 < S3 := by omega
  have bS4 : S4 ≤ 16000000000000 ∧ 0 < S4 := by omega
  have bA : 0 ≤ 4 * t.w * t.w ∧ 4 * t.w * t.w ≤ 4000000000000 := by omega
  have HI := Lib.hid hi; have HWE := Lib.hid hw; have HRE := Lib.hid hr
  have HRP := Lib.hid hRp; have HRM := Lib.hid hRm
  clear hi hw hr h4a
  go_enter Tryz.func3, Tryz.ntmps3
  go_wp2_with fail
  refine (known17_c _ (HG.out.ext ((Ext.refl w).alloc _))).mono ?_; rintro e w1 ⟨rfl, e1⟩
  have HX1 : Hid (Ext w w1) := Lib.hid (((Ext.refl w).alloc _).trans e1)
  have HB0_1 : Hid (Blk w1 (w.heap.size) #[.int .i64 t.w, .int .i64 t.x, .int .i64 t.y, .int .i64 t.z] 22) := Lib.hid (Blk.ext (Blk.new' (w := _) (cs := #[.int .i64 t.w, .int .i64 t.x, .int .i64 t.y, .int .i64 t.z]) (t := 22) (by first | rfl | (simp only [World.size_alloc]; done) | (simp only [World.size_alloc]; omega) | simp)) e1)
  have HGEB0 : Hid (w.heap.size ≤ w.heap.size) := Lib.hid (by first | omega | (simp only []; omega) | (simp; omega))
  clear e1
  have c0_0 := HB0_1.out.cell 0 rfl
  have c0_1 := HB0_1.out.cell 1 rfl
  have c0_2 := HB0_1.out.cell 2 rfl
  have c0_3 := HB0_1.out.cell 3 rfl
  go_wp2_with fail
  refine (lchk_l _ (HG.out.ext HX1.out) HE.out).mono ?_; rintro e w2 ⟨rfl, e2⟩
  have HX2 : Hid (Ext w w2) := Lib.hid (HX1.out.trans e2)
  have HB0_2 := Lib.hid (Blk.ext HB0_1.out e2)
  clear e2 c0_0 c0_1 c0_2 c0_3
  have c0_0 := HB0_2.out.cell 0 rfl
  have c0_1 := HB0_2.out.cell 1 rfl
  have c0_2 := HB0_2.out.cell 2 rfl
  have c0_3 := HB0_2.out.cell 3 rfl
  go_wp2_with fail
  refine (rord_6 t R _ (HG.out.ext HX2.out) HE.out HI.out HWE.out HRE.out HRP.out HRM.out).mono ?_; rintro e w3 ⟨rfl, e3⟩
  have HX3 : Hid (Ext w w3) := Lib.hid (HX2.out.trans e3)
  have HB0_3 := Lib.hid (Blk.ext HB0_2.out e3)
  clear e3 c0_0 c0_1 c0_2 c0_3
  have c0_0 := HB0_3.out.cell 0 rfl
  have c0_1 := HB0_3.out.cell 1 rfl
  have c0_2 := HB0_3.out.cell 2 rfl
  have c0_3 := HB0_3.out.cell 3 rfl
  go_wp2
  go_ret
  exact ⟨rfl, HX3.out⟩

set_option maxRecDepth 100000 in
set_option maxHeartbeats 8000000 in
theorem orders17_0 (t : Q4) (W R : Int) (w : World) (g : Gd w) (hq : QErr t 0) (hi : Q4In t) (hw : t.w * t.w = W) (hr : t.x * t.x + t.y * t.y + t.z * t.z = R) (hWp : 0 < W) (hWm : W ≤ 3000000000000) (hRp : 0 < R) (hRm : R ≤ 3000000000000) (n3 : ¬ R = 3 * W) (n4 : ¬ R = W) (n6 : ¬ W = 3 * R) : Calls Tryz.prog 3 #[.agg #[.int .i64 t.w, .int .i64 t.x, .int .i64 t.y, .int .i64 t.z]] w (Ret w (.bool true)) := by
  have HE := Lib.hid hq
  have HG := Lib.hid g
  clear hq g
  have bw := hi.w; have bx := hi.x; have by_ := hi.y; have bz := hi.z
  have pww := mul_bd bw bw
  have pxx := mul_bd bx bx
  have pyy := mul_bd by_ by_
  have pzz := mul_bd bz bz
  have sw := sqi_nonneg t.w; have sx := sqi_nonneg t.x; have sy := sqi_nonneg t.y; have sz := sqi_nonneg t.z
  obtain ⟨S, hS⟩ : ∃ S, t.w * t.w + t.x * t.x + t.y * t.y + t.z * t.z = S := ⟨_, rfl⟩
  obtain ⟨S2, hS2⟩ : ∃ x, 2 * S = x := ⟨_, rfl⟩
  obtain ⟨S3, hS3⟩ : ∃ x, 3 * S = x := ⟨_, rfl⟩
  obtain ⟨S4, hS4⟩ : ∃ x, 4 * S = x := ⟨_, rfl⟩
  obtain ⟨A, h4⟩ : ∃ A, 4 * t.w * t.w = A := ⟨_, rfl⟩
  have h4a : 4 * t.w * t.w = 4 * (t.w * t.w) := Int.mul_assoc 4 t.w t.w
  have t1_ : ((A : Int) == S4) = false := beq_eq_false_iff_ne.2 (by omega)
  have t2_ : ((A : Int) == 0) = false := beq_eq_false_iff_ne.2 (by omega)
  have t3_ : ((A : Int) == S) = false := beq_eq_false_iff_ne.2 (by omega)
  have t4_ : ((A : Int) == S2) = false := beq_eq_false_iff_ne.2 (by omega)
  have t5_ : ((A : Int) == S3) = false := beq_eq_false_iff_ne.2 (by omega)
  have bS : 0 < S ∧ S ≤ 4000000000000 := by omega
  have bS2 : S2 ≤ 8000000000000 ∧ 0 < S2 := by omega
  have bS3 : S3 ≤ 12000000000000 ∧ 0 < S3 := by omega
  have bS4 : S4 ≤ 16000000000000 ∧ 0 < S4 := by omega
  have bA : 0 ≤ 4 * t.w * t.w ∧ 4 * t.w * t.w ≤ 4000000000000 := by omega
  have HN3 := Lib.hid n3; have HN4 := Lib.hid n4; have HN6 := Lib.hid n6; clear n3 n4 n6
  have HI := Lib.hid hi; have HWE := Lib.hid hw; have HRE := Lib.hid hr
  have HWP := Lib.hid hWp; have HWM := Lib.hid hWm
  have HRP := Lib.hid hRp; have HRM := Lib.hid hRm
  clear hi hw hr h4a
  go_enter Tryz.func3, Tryz.ntmps3
  go_wp2_with fail
  refine (known17_c _ (HG.out.ext ((Ext.refl w).alloc _))).mono ?_; rintro e w1 ⟨rfl, e1⟩
  have HX1 : Hid (Ext w w1) := Lib.hid (((Ext.refl w).alloc _).trans e1)
  have HB0_1 : Hid (Blk w1 (w.heap.size) #[.int .i64 t.w, .int .i64 t.x, .int .i64 t.y, .int .i64 t.z] 22) := Lib.hid (Blk.ext (Blk.new' (w := _) (cs := #[.int .i64 t.w, .int .i64 t.x, .int .i64 t.y, .int .i64 t.z]) (t := 22) (by first | rfl | (simp only [World.size_alloc]; done) | (simp only [World.size_alloc]; omega) | simp)) e1)
  have HGEB0 : Hid (w.heap.size ≤ w.heap.size) := Lib.hid (by first | omega | (simp only []; omega) | (simp; omega))
  clear e1
  have c0_0 := HB0_1.out.cell 0 rfl
  have c0_1 := HB0_1.out.cell 1 rfl
  have c0_2 := HB0_1.out.cell 2 rfl
  have c0_3 := HB0_1.out.cell 3 rfl
  go_wp2_with fail
  refine (lchk_l _ (HG.out.ext HX1.out) HE.out).mono ?_; rintro e w2 ⟨rfl, e2⟩
  have HX2 : Hid (Ext w w2) := Lib.hid (HX1.out.trans e2)
  have HB0_2 := Lib.hid (Blk.ext HB0_1.out e2)
  clear e2 c0_0 c0_1 c0_2 c0_3
  have c0_0 := HB0_2.out.cell 0 rfl
  have c0_1 := HB0_2.out.cell 1 rfl
  have c0_2 := HB0_2.out.cell 2 rfl
  have c0_3 := HB0_2.out.cell 3 rfl
  go_wp2_with fail
  refine (rord_0 t W R _ (HG.out.ext HX2.out) HE.out HI.out HWE.out HRE.out HWP.out HWM.out HRP.out HRM.out HN3.out HN4.out HN6.out).mono ?_; rintro e w3 ⟨rfl, e3⟩
  have HX3 : Hid (Ext w w3) := Lib.hid (HX2.out.trans e3)
  have HB0_3 := Lib.hid (Blk.ext HB0_2.out e3)
  clear e3 c0_0 c0_1 c0_2 c0_3
  have c0_0 := HB0_3.out.cell 0 rfl
  have c0_1 := HB0_3.out.cell 1 rfl
  have c0_2 := HB0_3.out.cell 2 rfl
  have c0_3 := HB0_3.out.cell 3 rfl
  go_wp2
  go_ret
  exact ⟨rfl, HX3.out⟩

theorem orders17_walk (t : Q4) (w : World) (g : Gd w) : Calls Tryz.prog 3 #[.agg #[.int .i64 t.w, .int .i64 t.x, .int .i64 t.y, .int .i64 t.z]] w (Ret w (.bool true)) := by
  obtain ⟨e, he⟩ := qerr_ex t
  by_cases h0 : e = 0
  · subst h0
    obtain ⟨hi, hz⟩ := qerr_ok he rfl
    have pw := mul_bd hi.w hi.w; have px := mul_bd hi.x hi.x; have py := mul_bd hi.y hi.y; have pz := mul_bd hi.z hi.z
    have sw := sqi_nonneg t.w; have sx := sqi_nonneg t.x; have sy := sqi_nonneg t.y; have sz := sqi_nonneg t.z
    have hn := norm4_pos hz
    have hn2 : norm4 t = t.w * t.w + t.x * t.x + t.y * t.y + t.z * t.z := rfl
    obtain ⟨W, hw⟩ : ∃ W, t.w * t.w = W := ⟨_, rfl⟩
    obtain ⟨R, hr⟩ : ∃ R, t.x * t.x + t.y * t.y + t.z * t.z = R := ⟨_, rfl⟩
    by_cases h1 : R = 0
    · exact orders17_1 t W w g he hi hw (hr.trans h1) (by omega) (by omega)
    · by_cases h2 : W = 0
      · exact orders17_2 t R w g he hi (hw.trans h2) hr (by omega) (by omega)
      · by_cases h3 : R = 3 * W
        · exact orders17_3 t W w g he hi hw (hr.trans h3) (by omega) (by omega)
        · by_cases h4 : R = W
          · exact orders17_4 t W w g he hi hw (hr.trans h4) (by omega) (by omega)
          · by_cases h6 : W = 3 * R
            · exact orders17_6 t R w g he hi (hw.trans h6) hr (by omega) (by omega)
            · exact orders17_0 t W R w g he hi hw hr (by omega) (by omega) (by omega) (by omega) h3 h4 h6
  · exact orders17_e t e w g he h0
end Go.Proofs.YtjeimihnoiephaaGreatDoor
