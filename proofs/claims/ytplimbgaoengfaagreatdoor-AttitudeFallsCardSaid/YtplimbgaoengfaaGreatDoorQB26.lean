/- Part 26 of the proof: N3, N4. -/
import Derived.Test.YtplimbgaoengfaaGreatDoorQB1
import Derived.Test.YtplimbgaoengfaaGreatDoorQB2
import Derived.Test.YtplimbgaoengfaaGreatDoorQB3
import Derived.Test.YtplimbgaoengfaaGreatDoorQB4
import Derived.Test.YtplimbgaoengfaaGreatDoorQB5
import Derived.Test.YtplimbgaoengfaaGreatDoorQB6
import Derived.Test.YtplimbgaoengfaaGreatDoorQB7
import Derived.Test.YtplimbgaoengfaaGreatDoorQB8
import Derived.Test.YtplimbgaoengfaaGreatDoorQB9
import Derived.Test.YtplimbgaoengfaaGreatDoorQB10
import Derived.Test.YtplimbgaoengfaaGreatDoorQB11
import Derived.Test.YtplimbgaoengfaaGreatDoorQB12
import Derived.Test.YtplimbgaoengfaaGreatDoorQB13
import Derived.Test.YtplimbgaoengfaaGreatDoorQB14
import Derived.Test.YtplimbgaoengfaaGreatDoorQB15
import Derived.Test.YtplimbgaoengfaaGreatDoorQB16
import Derived.Test.YtplimbgaoengfaaGreatDoorQB17
import Derived.Test.YtplimbgaoengfaaGreatDoorQB18
import Derived.Test.YtplimbgaoengfaaGreatDoorQB19
import Derived.Test.YtplimbgaoengfaaGreatDoorQB20
import Derived.Test.YtplimbgaoengfaaGreatDoorQB21
import Derived.Test.YtplimbgaoengfaaGreatDoorQB22
import Derived.Test.YtplimbgaoengfaaGreatDoorQB23
import Derived.Test.YtplimbgaoengfaaGreatDoorQB24
import Derived.Test.YtplimbgaoengfaaGreatDoorQB25
namespace Go.Proofs.YtplimbgaoengfaaGreatDoor
open Go Go.RowKit
set_option maxRecDepth 100000 in
set_option maxHeartbeats 2000000 in
theorem three1_c (a b : V3) (w : World) (g : Gd w) (ha : VB 9 a) (hb : VB 9 b) : Calls Tryz.prog 70 #[.agg #[.string (qs a.x), .string (qs a.y), .string (qs a.z)], .agg #[.string (qs b.x), .string (qs b.y), .string (qs b.z)]] w (Ret w (.agg #[.string (qs (a.x - b.x)), .string (qs (a.y - b.y)), .string (qs (a.z - b.z))])) := by
  have HA := Lib.hid ha
  have HB := Lib.hid hb
  have HG := Lib.hid g
  clear ha hb g
  go_enter Tryz.func70, Tryz.ntmps70
  go_wp2_with fail
  refine wp_name (fun W => Ext w W ∧ Blk W (w.heap.size) #[.string (qs a.x), .string (qs a.y), .string (qs a.z)] 37 ∧ Blk W (w.heap.size + 1) #[.string (qs b.x), .string (qs b.y), .string (qs b.z)] 37 ∧ Blk W (w.heap.size + 1 + 1) #[.string ⟨#[]⟩, .string ⟨#[]⟩, .string ⟨#[]⟩] 37) ⟨((((Ext.refl w).alloc _).alloc _).alloc _), (((Blk.new' (w := _) (cs := #[.string (qs a.x), .string (qs a.y), .string (qs a.z)]) (t := 37) (by first | rfl | (simp only [World.size_alloc]; done) | (simp only [World.size_alloc]; omega) | simp)).alloc _).alloc _), ((Blk.new' (w := _) (cs := #[.string (qs b.x), .string (qs b.y), .string (qs b.z)]) (t := 37) (by first | rfl | (simp only [World.size_alloc]; done) | (simp only [World.size_alloc]; omega) | simp)).alloc _), (Blk.new' (w := _) (cs := #[.string ⟨#[]⟩, .string ⟨#[]⟩, .string ⟨#[]⟩]) (t := 37) (by first | rfl | (simp only [World.size_alloc]; done) | (simp only [World.size_alloc]; omega) | simp))⟩ ?_
  rintro w1 ⟨e1, bB0_1, bB1_1, bB2_1⟩
  have HX1 := Lib.hid e1; have HB0_1 := Lib.hid bB0_1; have HB1_1 := Lib.hid bB1_1; have HB2_1 := Lib.hid bB2_1
  have HGEB0 : Hid (w.heap.size ≤ w.heap.size) := Lib.hid (by first | omega | (simp only []; omega) | (simp; omega))
  have HGEB1 : Hid (w.heap.size ≤ w.heap.size + 1) := Lib.hid (by first | omega | (simp only []; omega) | (simp; omega))
  have HGEB2 : Hid (w.heap.size ≤ w.heap.size + 1 + 1) := Lib.hid (by first | omega | (simp only []; omega) | (simp; omega))
  clear e1 bB0_1 bB1_1 bB2_1
  refine region_lin_s (X := w) [⟨w.heap.size + 1 + 1, #[.string ⟨#[]⟩, .string ⟨#[]⟩, .string ⟨#[]⟩], #[.string (qs (a.x - b.x)), .string (qs (a.y - b.y)), .string (qs (a.z - b.z))], 37⟩] [.val (.pointer (some ⟨w.heap.size, 0, none⟩)), .val (.string (qs a.x)), .val (.pointer (some ⟨w.heap.size + 1, 0, none⟩)), .val (.string (qs b.x)), .val (.string (qs (a.x - b.x))), .val (.pointer (some ⟨w.heap.size, 1, none⟩)), .val (.string (qs a.y)), .val (.pointer (some ⟨w.heap.size + 1, 1, none⟩)), .val (.string (qs b.y)), .val (.string (qs (a.y - b.y))), .val (.pointer (some ⟨w.heap.size, 2, none⟩)), .val (.string (qs a.z)), .val (.pointer (some ⟨w.heap.size + 1, 2, none⟩)), .val (.string (qs b.z)), .val (.string (qs (a.z - b.z))), .val (.agg #[.string (qs (a.x - b.x)), .string (qs (a.y - b.y)), .string (qs (a.z - b.z))]), .st 0] (by kernel_rfl) (by kernel_rfl) (by kernel_rfl) HX1.out.drew (List.forall_mem_cons.2 ⟨⟨HGEB2.out, HB2_1.out.drew⟩, (fun _ h => by cases h)⟩) dis1 ?_ (fun g1 w2 hx_ hk_ hb_ hm_ hne_ => ?_)
  · skip
    refine RnL.cons (fun g1 A_ W_ hs_ => ?_) ?_
    · have q2_ := (hs_.old 2 (by kernel_rfl) : A_.tmps[2]?.getD undef = .pointer (some ⟨w.heap.size, 0, none⟩))
      refine Rn.val fun K_ hK_ => ?_
      go_simp
      exact hK_.out _ (Ext.refl _)
    refine RnL.cons (fun g1 A_ W_ hs_ => ?_) ?_
    · have q5_ := hs_.val 0 rfl rfl rfl
      have cB0_0 := ((hs_.keep (fm2 (show w.heap.size + 1 + 1 ≠ w.heap.size from by first | omega | (simp only []; omega) | (simp; omega)) fm0) HB0_1.out.drew)).cell 0 rfl
      refine Rn.val fun K_ hK_ => ?_
      go_simp
      exact hK_.out _ (Ext.refl _)
    refine RnL.cons (fun g1 A_ W_ hs_ => ?_) ?_
    · have q3_ := (hs_.old 3 (by kernel_rfl) : A_.tmps[3]?.getD undef = .pointer (some ⟨w.heap.size + 1, 0, none⟩))
      refine Rn.val fun K_ hK_ => ?_
      go_simp
      exact hK_.out _ (Ext.refl _)
    refine RnL.cons (fun g1 A_ W_ hs_ => ?_) ?_
    · have q7_ := hs_.val 2 rfl rfl rfl
      have cB1_0 := ((hs_.keep (fm2 (show w.heap.size + 1 + 1 ≠ w.heap.size + 1 from by first | omega | (simp only []; omega) | (simp; omega)) fm0) HB1_1.out.drew)).cell 0 rfl
      refine Rn.val fun K_ hK_ => ?_
      go_simp
      exact hK_.out _ (Ext.refl _)
    refine RnL.cons (fun g1 A_ W_ hs_ => ?_) ?_
    · have q6_ := hs_.val 1 rfl rfl rfl
      have q8_ := hs_.val 3 rfl rfl rfl
      refine Rn.val fun K_ hK_ => ?_
      go_simp
      refine (rsub_c a.x b.x _ (HG.out.ext hs_.1) HA.out.x HB.out.x (by omega) (by omega)).mono ?_; rintro e W9_ ⟨rfl, e9_⟩; exact hK_.out _ e9_
    refine RnL.cons (fun g1 A_ W_ hs_ => ?_) ?_
    · have q2_ := (hs_.old 2 (by kernel_rfl) : A_.tmps[2]?.getD undef = .pointer (some ⟨w.heap.size, 0, none⟩))
      refine Rn.val fun K_ hK_ => ?_
      go_simp
      exact hK_.out _ (Ext.refl _)
    refine RnL.cons (fun g1 A_ W_ hs_ => ?_) ?_
    · have q10_ := hs_.val 5 rfl rfl rfl
      have cB0_1 := ((hs_.keep (fm2 (show w.heap.size + 1 + 1 ≠ w.heap.size from by first | omega | (simp only []; omega) | (simp; omega)) fm0) HB0_1.out.drew)).cell 1 rfl
      refine Rn.val fun K_ hK_ => ?_
      go_simp
      exact hK_.out _ (Ext.refl _)
    refine RnL.cons (fun g1 A_ W_ hs_ => ?_) ?_
    · have q3_ := (hs_.old 3 (by kernel_rfl) : A_.tmps[3]?.getD undef = .pointer (some ⟨w.heap.size + 1, 0, none⟩))
      refine Rn.val fun K_ hK_ => ?_
      go_simp
      exact hK_.out _ (Ext.refl _)
    refine RnL.cons (fun g1 A_ W_ hs_ => ?_) ?_
    · have q12_ := hs_.val 7 rfl rfl rfl
      have cB1_1 := ((hs_.keep (fm2 (show w.heap.size + 1 + 1 ≠ w.heap.size + 1 from by first | omega | (simp only []; omega) | (simp; omega)) fm0) HB1_1.out.drew)).cell 1 rfl
      refine Rn.val fun K_ hK_ => ?_
      go_simp
      exact hK_.out _ (Ext.refl _)
    refine RnL.cons (fun g1 A_ W_ hs_ => ?_) ?_
    · have q11_ := hs_.val 6 rfl rfl rfl
      have q13_ := hs_.val 8 rfl rfl rfl
      refine Rn.val fun K_ hK_ => ?_
      go_simp
      refine (rsub_c a.y b.y _ (HG.out.ext hs_.1) HA.out.y HB.out.y (by omega) (by omega)).mono ?_; rintro e W9_ ⟨rfl, e9_⟩; exact hK_.out _ e9_
    refine RnL.cons (fun g1 A_ W_ hs_ => ?_) ?_
    · have q2_ := (hs_.old 2 (by kernel_rfl) : A_.tmps[2]?.getD undef = .pointer (some ⟨w.heap.size, 0, none⟩))
      refine Rn.val fun K_ hK_ => ?_
      go_simp
      exact hK_.out _ (Ext.refl _)
    refine RnL.cons (fun g1 A_ W_ hs_ => ?_) ?_
    · have q15_ := hs_.val 10 rfl rfl rfl
      have cB0_2 := ((hs_.keep (fm2 (show w.heap.size + 1 + 1 ≠ w.heap.size from by first | omega | (simp only []; omega) | (simp; omega)) fm0) HB0_1.out.drew)).cell 2 rfl
      refine Rn.val fun K_ hK_ => ?_
      go_simp
      exact hK_.out _ (Ext.refl _)
    refine RnL.cons (fun g1 A_ W_ hs_ => ?_) ?_
    · have q3_ := (hs_.old 3 (by kernel_rfl) : A_.tmps[3]?.getD undef = .pointer (some ⟨w.heap.size + 1, 0, none⟩))
      refine Rn.val fun K_ hK_ => ?_
      go_simp
      exact hK_.out _ (Ext.refl _)
    refine RnL.cons (fun g1 A_ W_ hs_ => ?_) ?_
    · have q17_ := hs_.val 12 rfl rfl rfl
      have cB1_2 := ((hs_.keep (fm2 (show w.heap.size + 1 + 1 ≠ w.heap.size + 1 from by first | omega | (simp only []; omega) | (simp; omega)) fm0) HB1_1.out.drew)).cell 2 rfl
      refine Rn.val fun K_ hK_ => ?_
      go_simp
      exact hK_.out _ (Ext.refl _)
    refine RnL.cons (fun g1 A_ W_ hs_ => ?_) ?_
    · have q16_ := hs_.val 11 rfl rfl rfl
      have q18_ := hs_.val 13 rfl rfl rfl
      refine Rn.val fun K_ hK_ => ?_
      go_simp
      refine (rsub_c a.z b.z _ (HG.out.ext hs_.1) HA.out.z HB.out.z (by omega) (by omega)).mono ?_; rintro e W9_ ⟨rfl, e9_⟩; exact hK_.out _ e9_
    refine RnL.cons (fun g1 A_ W_ hs_ => ?_) ?_
    · have q9_ := hs_.val 4 rfl rfl rfl
      have q14_ := hs_.val 9 rfl rfl rfl
      have q19_ := hs_.val 14 rfl rfl rfl
      refine Rn.val fun K_ hK_ => ?_
      go_simp
      exact hK_.out _ (Ext.refl _)
    refine RnL.cons (fun g1 A_ W_ hs_ => ?_) ?_
    · have q4_ := (hs_.old 4 (by kernel_rfl) : A_.tmps[4]?.getD undef = .pointer (some ⟨w.heap.size + 1 + 1, 0, none⟩))
      have q20_ := hs_.val 15 rfl rfl rfl
      refine Rn.st (n := 0) rfl fun hB0 K_ hK_ => ?_
      have hB : Blk W_ (w.heap.size + 1 + 1) #[.string ⟨#[]⟩, .string ⟨#[]⟩, .string ⟨#[]⟩] 37 := hB0; clear hB0
      have c_0 := hB.cell 0 rfl; have f_0 := hB.free 0
      have c_1 := hB.cell 1 rfl; have f_1 := hB.free 1
      have c_2 := hB.cell 2 rfl; have f_2 := hB.free 2
      have HB := Lib.hid hB; clear hB
      go_simp
      exact hK_.out _ ((((Only.refl _ _).set 0 _).set 1 _).set 2 _) (((HB.out.set 0 _).set 1 _).set 2 _)
    exact RnL.nil
  simp only [fs, Kd.value, puts, Act.put, List.setIfInBounds_toArray, List.set_cons_zero, List.set_cons_succ]
  have HX2 : Hid (Ext w w2) := Lib.hid hx_
  have HB2_2 : Hid (Blk w2 (w.heap.size + 1 + 1) #[.string (qs (a.x - b.x)), .string (qs (a.y - b.y)), .string (qs (a.z - b.z))] 37) := Lib.hid (hb_ 0 _ rfl)
  clear hx_ hm_ hne_ hk_ hb_
  go_wp2_with fail
  have gB2_0 := HB2_2.out.cell 0 rfl
  have gB2_1 := HB2_2.out.cell 1 rfl
  have gB2_2 := HB2_2.out.cell 2 rfl
  refine bodyPost_ret (v := .agg #[.string (qs (a.x - b.x)), .string (qs (a.y - b.y)), .string (qs (a.z - b.z))]) (by simp [results, Tryz.results70, go_sem, gB2_0, gB2_1, gB2_2]) rfl ⟨rfl, HX2.out⟩

set_option maxRecDepth 100000 in
set_option maxHeartbeats 2000000 in
theorem three2_c (a b c d : Rat) (w : World) (g : Gd w) (ha : QB 9 a) (hb : QB 9 b) (hc : QB 9 c) (hd : QB 9 d) : Calls Tryz.prog 71 #[.string (qs a), .string (qs b), .string (qs c), .string (qs d)] w (Ret w (.string (qs (a * d - b * c)))) := by
  have HA := Lib.hid ha
  have HB := Lib.hid hb
  have HC := Lib.hid hc
  have HD := Lib.hid hd
  have HG := Lib.hid g
  clear ha hb hc hd g
  go_enter Tryz.func71, Tryz.ntmps71
  go_wp2_with fail
  refine (rmul_c a d _ (HG.out.ext (Ext.refl w)) HA.out HD.out (by omega) (by omega)).mono ?_; rintro e w1 ⟨rfl, e1⟩
  have HX1 : Hid (Ext w w1) := Lib.hid ((Ext.refl w).trans e1)
  clear e1
  go_wp2_with fail
  refine (rmul_c b c _ (HG.out.ext HX1.out) HB.out HC.out (by omega) (by omega)).mono ?_; rintro e w2 ⟨rfl, e2⟩
  have HX2 : Hid (Ext w w2) := Lib.hid (HX1.out.trans e2)
  clear e2
  go_wp2_with fail
  refine (rsub_c (a * d) (b * c) _ (HG.out.ext HX2.out) (HA.out.mul HD.out) (HB.out.mul HC.out) (by omega) (by omega)).mono ?_; rintro e w3 ⟨rfl, e3⟩
  have HX3 : Hid (Ext w w3) := Lib.hid (HX2.out.trans e3)
  clear e3
  go_wp2
  go_ret
  exact ⟨rfl, HX3.out⟩
set_option maxRecDepth 100000
theorem k15_0 (w : World) (g : Gd w) : Calls Tryz.prog 68 #[.int .i64 1] w (Ret w (.string ⟨#[49]⟩)) := by
  have h := whole_c (1) (by decide) (by decide) w g
  exact Eq.mp (by kernel_rfl) h

theorem k15_1 (w : World) (g : Gd w) : Calls Tryz.prog 68 #[.int .i64 0] w (Ret w (.string ⟨#[48]⟩)) := by
  have h := whole_c (0) (by decide) (by decide) w g
  exact Eq.mp (by kernel_rfl) h

theorem k15_2 (w : World) (g : Gd w) : Calls Tryz.prog 68 #[.int .i64 2] w (Ret w (.string ⟨#[50]⟩)) := by
  have h := whole_c (2) (by decide) (by decide) w g
  exact Eq.mp (by kernel_rfl) h

theorem k15_3 (w : World) (g : Gd w) : Calls Tryz.prog 68 #[.int .i64 (-1)] w (Ret w (.string ⟨#[45, 49]⟩)) := by
  have h := whole_c (-1) (by decide) (by decide) w g
  exact Eq.mp (by kernel_rfl) h

theorem k15_4 (w : World) (g : Gd w) : Calls Tryz.prog 68 #[.int .i64 (-2)] w (Ret w (.string ⟨#[45, 50]⟩)) := by
  have h := whole_c (-2) (by decide) (by decide) w g
  exact Eq.mp (by kernel_rfl) h

theorem k15_5 (w : World) (g : Gd w) : Calls Tryz.prog 52 #[.agg #[.string ⟨#[49]⟩, .string ⟨#[48]⟩, .string ⟨#[49]⟩]] w (Ret w (.int .i64 0)) := by
  have h := acheck_ok ⟨(1 : Rat), (0 : Rat), (1 : Rat)⟩ w g (⟨⟨by decide +kernel, by decide +kernel⟩, ⟨by decide +kernel, by decide +kernel⟩, ⟨by decide +kernel, by decide +kernel⟩⟩ : VB 200 ⟨(1 : Rat), (0 : Rat), (1 : Rat)⟩) (by decide +kernel)
  exact Eq.mp (by kernel_rfl) h

theorem k15_6 (w : World) (_ : Gd w) : Calls Tryz.prog 26 #[.string ⟨#[49]⟩] w fun e w' => e = .returned (.int .i64 (1)) ∧ w = w' := by
  have h := rsign_c (1 : Rat) w
  exact Eq.mp (by kernel_rfl) h

theorem k15_7 (w : World) (g : Gd w) : Calls Tryz.prog 63 #[.agg #[.string ⟨#[49]⟩, .string ⟨#[48]⟩, .string ⟨#[48]⟩]] w (Ret w (.tuple #[.agg #[.string ⟨#[49]⟩, .string ⟨#[48]⟩, .string ⟨#[48]⟩], .int .i64 0])) := by
  have h := vPrim_ok ⟨(1 : Rat), (0 : Rat), (0 : Rat)⟩ w g (⟨⟨by decide +kernel, by decide +kernel⟩, ⟨by decide +kernel, by decide +kernel⟩, ⟨by decide +kernel, by decide +kernel⟩⟩ : VB 24 ⟨(1 : Rat), (0 : Rat), (0 : Rat)⟩) (by decide +kernel) ⟨⟨by decide +kernel, by decide +kernel⟩, ⟨by decide +kernel, by decide +kernel⟩, ⟨by decide +kernel, by decide +kernel⟩⟩ (by decide +kernel) ⟨⟨by decide +kernel, by decide +kernel⟩, ⟨by decide +kernel, by decide +kernel⟩, ⟨by decide +kernel, by decide +kernel⟩⟩
  exact Eq.mp (by kernel_rfl) h

theorem k15_8 (w : World) (_ : Gd w) : Calls Tryz.prog 29 #[.string ⟨#[48]⟩] w (Ret w (.string ⟨#[48]⟩)) := by
  have h := rneg_c (0 : Rat) w (⟨by decide +kernel, by decide +kernel⟩ : QB 9 (0 : Rat)) (by decide)
  exact Eq.mp (by kernel_rfl) h

theorem k15_9 (w : World) (g : Gd w) : Calls Tryz.prog 44 #[.agg #[.string ⟨#[49]⟩, .string ⟨#[50]⟩]] w (Ret w (.int .i64 0)) := by
  have h := ahead_ok ⟨(1 : Rat), (2 : Rat)⟩ w g (⟨⟨by decide +kernel, by decide +kernel⟩, ⟨by decide +kernel, by decide +kernel⟩⟩ : PB 200 ⟨(1 : Rat), (2 : Rat)⟩) (by decide +kernel)
  exact Eq.mp (by kernel_rfl) h

theorem k15_10 (w : World) (_ : Gd w) : Calls Tryz.prog 26 #[.string ⟨#[50]⟩] w fun e w' => e = .returned (.int .i64 (1)) ∧ w = w' := by
  have h := rsign_c (2 : Rat) w
  exact Eq.mp (by kernel_rfl) h

theorem k15_11 (w : World) (g : Gd w) : Calls Tryz.prog 33 #[.string ⟨#[49]⟩, .string ⟨#[50]⟩] w (Ret w (.int .i64 (-1))) := by
  have h := rcompare_c (1 : Rat) (2 : Rat) w g (⟨by decide +kernel, by decide +kernel⟩ : QB 9 (1 : Rat)) (⟨by decide +kernel, by decide +kernel⟩ : QB 9 (2 : Rat)) (by decide) (by decide)
  exact Eq.mp (by kernel_rfl) h

theorem k15_12 (w : World) (g : Gd w) : Calls Tryz.prog 46 #[.string ⟨#[49]⟩, .string ⟨#[50]⟩] w (Ret w (.string ⟨#[49, 47, 50]⟩)) := by
  have h := over_c (1 : Rat) (2 : Rat) w g (⟨by decide +kernel, by decide +kernel⟩ : QB 9 (1 : Rat)) (⟨by decide +kernel, by decide +kernel⟩ : QB 9 (2 : Rat)) (by decide) (by decide) (by decide) (by decide +kernel)
  exact Eq.mp (by kernel_rfl) h

theorem k15_13 (w : World) (g : Gd w) : Calls Tryz.prog 45 #[.string ⟨#[49, 47, 50]⟩] w (Ret w (.tuple #[.string ⟨#[49, 47, 50]⟩, .int .i64 0])) := by
  have h := anum_ok (1 / 2 : Rat) w g (⟨by decide +kernel, by decide +kernel⟩ : QB 200 (1 / 2 : Rat))
  exact Eq.mp (by kernel_rfl) h

theorem k15_14 (w : World) (g : Gd w) : Calls Tryz.prog 69 #[.agg #[.string ⟨#[48]⟩, .string ⟨#[48]⟩, .string ⟨#[48]⟩]] w (Ret w (.int .i64 0)) := by
  have h := vCheck_ok ⟨(0 : Rat), (0 : Rat), (0 : Rat)⟩ w g (⟨⟨by decide +kernel, by decide +kernel⟩, ⟨by decide +kernel, by decide +kernel⟩, ⟨by decide +kernel, by decide +kernel⟩⟩ : VB 200 ⟨(0 : Rat), (0 : Rat), (0 : Rat)⟩)
  exact Eq.mp (by kernel_rfl) h

theorem k15_15 (w : World) (g : Gd w) : Calls Tryz.prog 69 #[.agg #[.string ⟨#[49]⟩, .string ⟨#[48]⟩, .string ⟨#[49]⟩]] w (Ret w (.int .i64 0)) := by
  have h := vCheck_ok ⟨(1 : Rat), (0 : Rat), (1 : Rat)⟩ w g (⟨⟨by decide +kernel, by decide +kernel⟩, ⟨by decide +kernel, by decide +kernel⟩, ⟨by decide +kernel, by decide +kernel⟩⟩ : VB 200 ⟨(1 : Rat), (0 : Rat), (1 : Rat)⟩)
  exact Eq.mp (by kernel_rfl) h

theorem k15_16 (w : World) (g : Gd w) : Calls Tryz.prog 69 #[.agg #[.string ⟨#[48]⟩, .string ⟨#[49]⟩, .string ⟨#[50]⟩]] w (Ret w (.int .i64 0)) := by
  have h := vCheck_ok ⟨(0 : Rat), (1 : Rat), (2 : Rat)⟩ w g (⟨⟨by decide +kernel, by decide +kernel⟩, ⟨by decide +kernel, by decide +kernel⟩, ⟨by decide +kernel, by decide +kernel⟩⟩ : VB 200 ⟨(0 : Rat), (1 : Rat), (2 : Rat)⟩)
  exact Eq.mp (by kernel_rfl) h

theorem k15_17 (w : World) (g : Gd w) : Calls Tryz.prog 70 #[.agg #[.string ⟨#[49]⟩, .string ⟨#[48]⟩, .string ⟨#[49]⟩], .agg #[.string ⟨#[48]⟩, .string ⟨#[48]⟩, .string ⟨#[48]⟩]] w (Ret w (.agg #[.string ⟨#[49]⟩, .string ⟨#[48]⟩, .string ⟨#[49]⟩])) := by
  have h := three1_c ⟨(1 : Rat), (0 : Rat), (1 : Rat)⟩ ⟨(0 : Rat), (0 : Rat), (0 : Rat)⟩ w g (⟨⟨by decide +kernel, by decide +kernel⟩, ⟨by decide +kernel, by decide +kernel⟩, ⟨by decide +kernel, by decide +kernel⟩⟩ : VB 9 ⟨(1 : Rat), (0 : Rat), (1 : Rat)⟩) (⟨⟨by decide +kernel, by decide +kernel⟩, ⟨by decide +kernel, by decide +kernel⟩, ⟨by decide +kernel, by decide +kernel⟩⟩ : VB 9 ⟨(0 : Rat), (0 : Rat), (0 : Rat)⟩)
  exact Eq.mp (by kernel_rfl) h

theorem k15_18 (w : World) (g : Gd w) : Calls Tryz.prog 70 #[.agg #[.string ⟨#[48]⟩, .string ⟨#[49]⟩, .string ⟨#[50]⟩], .agg #[.string ⟨#[48]⟩, .string ⟨#[48]⟩, .string ⟨#[48]⟩]] w (Ret w (.agg #[.string ⟨#[48]⟩, .string ⟨#[49]⟩, .string ⟨#[50]⟩])) := by
  have h := three1_c ⟨(0 : Rat), (1 : Rat), (2 : Rat)⟩ ⟨(0 : Rat), (0 : Rat), (0 : Rat)⟩ w g (⟨⟨by decide +kernel, by decide +kernel⟩, ⟨by decide +kernel, by decide +kernel⟩, ⟨by decide +kernel, by decide +kernel⟩⟩ : VB 9 ⟨(0 : Rat), (1 : Rat), (2 : Rat)⟩) (⟨⟨by decide +kernel, by decide +kernel⟩, ⟨by decide +kernel, by decide +kernel⟩, ⟨by decide +kernel, by decide +kernel⟩⟩ : VB 9 ⟨(0 : Rat), (0 : Rat), (0 : Rat)⟩)
  exact Eq.mp (by kernel_rfl) h

theorem k15_19 (w : World) (g : Gd w) : Calls Tryz.prog 71 #[.string ⟨#[48]⟩, .string ⟨#[49]⟩, .string ⟨#[49]⟩, .string ⟨#[50]⟩] w (Ret w (.string ⟨#[45, 49]⟩)) := by
  have h := three2_c (0 : Rat) (1 : Rat) (1 : Rat) (2 : Rat) w g (⟨by decide +kernel, by decide +kernel⟩ : QB 9 (0 : Rat)) (⟨by decide +kernel, by decide +kernel⟩ : QB 9 (1 : Rat)) (⟨by decide +kernel, by decide +kernel⟩ : QB 9 (1 : Rat)) (⟨by decide +kernel, by decide +kernel⟩ : QB 9 (2 : Rat))
  exact Eq.mp (by kernel_rfl) h

theorem k15_20 (w : World) (g : Gd w) : Calls Tryz.prog 71 #[.string ⟨#[49]⟩, .string ⟨#[49]⟩, .string ⟨#[50]⟩, .string ⟨#[48]⟩] w (Ret w (.string ⟨#[45, 50]⟩)) := by
  have h := three2_c (1 : Rat) (1 : Rat) (2 : Rat) (0 : Rat) w g (⟨by decide +kernel, by decide +kernel⟩ : QB 9 (1 : Rat)) (⟨by decide +kernel, by decide +kernel⟩ : QB 9 (1 : Rat)) (⟨by decide +kernel, by decide +kernel⟩ : QB 9 (2 : Rat)) (⟨by decide +kernel, by decide +kernel⟩ : QB 9 (0 : Rat))
  exact Eq.mp (by kernel_rfl) h

theorem k15_21 (w : World) (g : Gd w) : Calls Tryz.prog 71 #[.string ⟨#[49]⟩, .string ⟨#[48]⟩, .string ⟨#[48]⟩, .string ⟨#[49]⟩] w (Ret w (.string ⟨#[49]⟩)) := by
  have h := three2_c (1 : Rat) (0 : Rat) (0 : Rat) (1 : Rat) w g (⟨by decide +kernel, by decide +kernel⟩ : QB 9 (1 : Rat)) (⟨by decide +kernel, by decide +kernel⟩ : QB 9 (0 : Rat)) (⟨by decide +kernel, by decide +kernel⟩ : QB 9 (0 : Rat)) (⟨by decide +kernel, by decide +kernel⟩ : QB 9 (1 : Rat))
  exact Eq.mp (by kernel_rfl) h

theorem k15_22 (w : World) (g : Gd w) : Calls Tryz.prog 46 #[.string ⟨#[45, 49]⟩, .string ⟨#[49]⟩] w (Ret w (.string ⟨#[45, 49]⟩)) := by
  have h := over_c (-1 : Rat) (1 : Rat) w g (⟨by decide +kernel, by decide +kernel⟩ : QB 9 (-1 : Rat)) (⟨by decide +kernel, by decide +kernel⟩ : QB 9 (1 : Rat)) (by decide) (by decide) (by decide) (by decide +kernel)
  exact Eq.mp (by kernel_rfl) h

theorem k15_23 (w : World) (g : Gd w) : Calls Tryz.prog 46 #[.string ⟨#[45, 50]⟩, .string ⟨#[49]⟩] w (Ret w (.string ⟨#[45, 50]⟩)) := by
  have h := over_c (-2 : Rat) (1 : Rat) w g (⟨by decide +kernel, by decide +kernel⟩ : QB 9 (-2 : Rat)) (⟨by decide +kernel, by decide +kernel⟩ : QB 9 (1 : Rat)) (by decide) (by decide) (by decide) (by decide +kernel)
  exact Eq.mp (by kernel_rfl) h

theorem k15_24 (w : World) (g : Gd w) : Calls Tryz.prog 63 #[.agg #[.string ⟨#[45, 49]⟩, .string ⟨#[45, 50]⟩, .string ⟨#[49]⟩]] w (Ret w (.tuple #[.agg #[.string ⟨#[45, 49]⟩, .string ⟨#[45, 50]⟩, .string ⟨#[49]⟩], .int .i64 0])) := by
  have h := vPrim_ok ⟨(-1 : Rat), (-2 : Rat), (1 : Rat)⟩ w g (⟨⟨by decide +kernel, by decide +kernel⟩, ⟨by decide +kernel, by decide +kernel⟩, ⟨by decide +kernel, by decide +kernel⟩⟩ : VB 24 ⟨(-1 : Rat), (-2 : Rat), (1 : Rat)⟩) (by decide +kernel) ⟨⟨by decide +kernel, by decide +kernel⟩, ⟨by decide +kernel, by decide +kernel⟩, ⟨by decide +kernel, by decide +kernel⟩⟩ (by decide +kernel) ⟨⟨by decide +kernel, by decide +kernel⟩, ⟨by decide +kernel, by decide +kernel⟩, ⟨by decide +kernel, by decide +kernel⟩⟩
  exact Eq.mp (by kernel_rfl) h

theorem k15_25 (w : World) (g : Gd w) : Calls Tryz.prog 15 #[.string ⟨#[45, 49]⟩, .string ⟨#[48]⟩] w (Ret w (.string ⟨#[48]⟩)) := by
  have h := rmul_c (-1 : Rat) (0 : Rat) w g (⟨by decide +kernel, by decide +kernel⟩ : QB 9 (-1 : Rat)) (⟨by decide +kernel, by decide +kernel⟩ : QB 9 (0 : Rat)) (by decide) (by decide)
  exact Eq.mp (by kernel_rfl) h

theorem k15_26 (w : World) (g : Gd w) : Calls Tryz.prog 15 #[.string ⟨#[45, 50]⟩, .string ⟨#[48]⟩] w (Ret w (.string ⟨#[48]⟩)) := by
  have h := rmul_c (-2 : Rat) (0 : Rat) w g (⟨by decide +kernel, by decide +kernel⟩ : QB 9 (-2 : Rat)) (⟨by decide +kernel, by decide +kernel⟩ : QB 9 (0 : Rat)) (by decide) (by decide)
  exact Eq.mp (by kernel_rfl) h

theorem k15_27 (w : World) (g : Gd w) : Calls Tryz.prog 15 #[.string ⟨#[49]⟩, .string ⟨#[48]⟩] w (Ret w (.string ⟨#[48]⟩)) := by
  have h := rmul_c (1 : Rat) (0 : Rat) w g (⟨by decide +kernel, by decide +kernel⟩ : QB 9 (1 : Rat)) (⟨by decide +kernel, by decide +kernel⟩ : QB 9 (0 : Rat)) (by decide) (by decide)
  exact Eq.mp (by kernel_rfl) h

theorem k15_28 (w : World) (g : Gd w) (cb : Nat) (ty : TypeId) : Blk w cb #[.string ⟨#[48]⟩, .string ⟨#[48]⟩, .string ⟨#[48]⟩] ty → Calls Tryz.prog 72 #[.slice (some ⟨cb, 0, none⟩) 3 3] w (Ret w (.string ⟨#[48]⟩)) := by
  have h := fun hB => sum3_c (0 : Rat) (0 : Rat) (0 : Rat) cb (ty := ty) w g (⟨by decide +kernel, by decide +kernel⟩ : QB 9 (0 : Rat)) (⟨by decide +kernel, by decide +kernel⟩ : QB 9 (0 : Rat)) (⟨by decide +kernel, by decide +kernel⟩ : QB 9 (0 : Rat)) hB (by decide)
  exact Eq.mp (by kernel_rfl) h

theorem k15_29 (w : World) (g : Gd w) : Calls Tryz.prog 45 #[.string ⟨#[48]⟩] w (Ret w (.tuple #[.string ⟨#[48]⟩, .int .i64 0])) := by
  have h := anum_ok (0 : Rat) w g (⟨by decide +kernel, by decide +kernel⟩ : QB 200 (0 : Rat))
  exact Eq.mp (by kernel_rfl) h

theorem k15_30 (w : World) (g : Gd w) : Calls Tryz.prog 52 #[.agg #[.string ⟨#[45, 49]⟩, .string ⟨#[45, 50]⟩, .string ⟨#[49]⟩]] w (Ret w (.int .i64 0)) := by
  have h := acheck_ok ⟨(-1 : Rat), (-2 : Rat), (1 : Rat)⟩ w g (⟨⟨by decide +kernel, by decide +kernel⟩, ⟨by decide +kernel, by decide +kernel⟩, ⟨by decide +kernel, by decide +kernel⟩⟩ : VB 200 ⟨(-1 : Rat), (-2 : Rat), (1 : Rat)⟩) (by decide +kernel)
  exact Eq.mp (by kernel_rfl) h

theorem k15_31 (w : World) (g : Gd w) : Calls Tryz.prog 44 #[.agg #[.string ⟨#[49]⟩, .string ⟨#[49]⟩]] w (Ret w (.int .i64 0)) := by
  have h := ahead_ok ⟨(1 : Rat), (1 : Rat)⟩ w g (⟨⟨by decide +kernel, by decide +kernel⟩, ⟨by decide +kernel, by decide +kernel⟩⟩ : PB 200 ⟨(1 : Rat), (1 : Rat)⟩) (by decide +kernel)
  exact Eq.mp (by kernel_rfl) h

theorem k15_32 (w : World) (g : Gd w) : Calls Tryz.prog 15 #[.string ⟨#[45, 49]⟩, .string ⟨#[49]⟩] w (Ret w (.string ⟨#[45, 49]⟩)) := by
  have h := rmul_c (-1 : Rat) (1 : Rat) w g (⟨by decide +kernel, by decide +kernel⟩ : QB 9 (-1 : Rat)) (⟨by decide +kernel, by decide +kernel⟩ : QB 9 (1 : Rat)) (by decide) (by decide)
  exact Eq.mp (by kernel_rfl) h

theorem k15_33 (w : World) (g : Gd w) : Calls Tryz.prog 15 #[.string ⟨#[45, 50]⟩, .string ⟨#[49]⟩] w (Ret w (.string ⟨#[45, 50]⟩)) := by
  have h := rmul_c (-2 : Rat) (1 : Rat) w g (⟨by decide +kernel, by decide +kernel⟩ : QB 9 (-2 : Rat)) (⟨by decide +kernel, by decide +kernel⟩ : QB 9 (1 : Rat)) (by decide) (by decide)
  exact Eq.mp (by kernel_rfl) h

theorem k15_34 (w : World) (g : Gd w) : Calls Tryz.prog 21 #[.string ⟨#[45, 49]⟩, .string ⟨#[45, 50]⟩] w (Ret w (.string ⟨#[45, 51]⟩)) := by
  have h := radd_c (-1 : Rat) (-2 : Rat) w g (⟨by decide +kernel, by decide +kernel⟩ : QB 9 (-1 : Rat)) (⟨by decide +kernel, by decide +kernel⟩ : QB 9 (-2 : Rat)) (by decide) (by decide)
  exact Eq.mp (by kernel_rfl) h

theorem k15_35 (w : World) (g : Gd w) : Calls Tryz.prog 46 #[.string ⟨#[45, 51]⟩, .string ⟨#[49]⟩] w (Ret w (.string ⟨#[45, 51]⟩)) := by
  have h := over_c (-3 : Rat) (1 : Rat) w g (⟨by decide +kernel, by decide +kernel⟩ : QB 9 (-3 : Rat)) (⟨by decide +kernel, by decide +kernel⟩ : QB 9 (1 : Rat)) (by decide) (by decide) (by decide) (by decide +kernel)
  exact Eq.mp (by kernel_rfl) h

theorem k15_36 (w : World) (g : Gd w) : Calls Tryz.prog 45 #[.string ⟨#[45, 51]⟩] w (Ret w (.tuple #[.string ⟨#[45, 51]⟩, .int .i64 0])) := by
  have h := anum_ok (-3 : Rat) w g (⟨by decide +kernel, by decide +kernel⟩ : QB 200 (-3 : Rat))
  exact Eq.mp (by kernel_rfl) h

set_option maxRecDepth 100000 in
set_option maxHeartbeats 4000000 in
theorem kv_1_0_1 (w : World) (g : Gd w) : Calls Tryz.prog 41 #[.int .i64 1, .int .i64 0, .int .i64 1] w (Ret w (.agg #[.string ⟨#[49]⟩, .string ⟨#[48]⟩, .string ⟨#[49]⟩])) := by
  have HG := Lib.hid g
  clear g
  go_enter Tryz.func41, Tryz.ntmps41
  go_wp2_with fail
  refine (k15_0 _ (HG.out.ext ((Ext.refl w).alloc _))).mono ?_; rintro e w1 ⟨rfl, e1⟩
  have HX1 : Hid (Ext w w1) := Lib.hid (((Ext.refl w).alloc _).trans e1)
  have HB0_1 : Hid (Blk w1 (w.heap.size) #[.string ⟨#[]⟩, .string ⟨#[]⟩, .string ⟨#[]⟩] 37) := Lib.hid (Blk.ext (Blk.new' (w := _) (cs := #[.string ⟨#[]⟩, .string ⟨#[]⟩, .string ⟨#[]⟩]) (t := 37) (by first | rfl | (simp only [World.size_alloc]; done) | (simp only [World.size_alloc]; omega) | simp)) e1)
  have HGEB0 : Hid (w.heap.size ≤ w.heap.size) := Lib.hid (by first | omega | (simp only []; omega) | (simp; omega))
  clear e1
  go_wp2_with fail
  refine (k15_1 _ (HG.out.ext HX1.out)).mono ?_; rintro e w2 ⟨rfl, e2⟩
  have HX2 : Hid (Ext w w2) := Lib.hid (HX1.out.trans e2)
  have HB0_2 := Lib.hid (Blk.ext HB0_1.out e2)
  clear e2
  go_wp2_with fail
  refine (k15_0 _ (HG.out.ext HX2.out)).mono ?_; rintro e w3 ⟨rfl, e3⟩
  have HX3 : Hid (Ext w w3) := Lib.hid (HX2.out.trans e3)
  have HB0_3 := Lib.hid (Blk.ext HB0_2.out e3)
  clear e3
  have c0_0 := HB0_3.out.cell 0 rfl
  have f0_0 := HB0_3.out.free 0
  have c0_1 := HB0_3.out.cell 1 rfl
  have f0_1 := HB0_3.out.free 1
  have c0_2 := HB0_3.out.cell 2 rfl
  have f0_2 := HB0_3.out.free 2
  go_wp2_with fail
  refine wp_name (fun W => Ext w W ∧ Blk W (w.heap.size) #[.string ⟨#[49]⟩, .string ⟨#[48]⟩, .string ⟨#[49]⟩] 37) ⟨(((HX3.out.setCell (by have := HGEB0.out; first | omega | (simp only []; omega) | (simp; omega)) _).setCell (by have := HGEB0.out; first | omega | (simp only []; omega) | (simp; omega)) _).setCell (by have := HGEB0.out; first | omega | (simp only []; omega) | (simp; omega)) _), (((HB0_3.out.set 0 (.string ⟨#[49]⟩)).set 1 (.string ⟨#[48]⟩)).set 2 (.string ⟨#[49]⟩))⟩ ?_
  rintro w4 ⟨e4, bB0_4⟩
  have HX4 := Lib.hid e4; have HB0_4 := Lib.hid bB0_4
  clear e4 bB0_4 c0_0 f0_0 c0_1 f0_1 c0_2 f0_2
  have gB0_0 := HB0_4.out.cell 0 rfl
  have gB0_1 := HB0_4.out.cell 1 rfl
  have gB0_2 := HB0_4.out.cell 2 rfl
  refine bodyPost_ret (v := .agg #[.string ⟨#[49]⟩, .string ⟨#[48]⟩, .string ⟨#[49]⟩]) (by simp [results, Tryz.results41, go_sem, gB0_0, gB0_1, gB0_2]) rfl ⟨rfl, HX4.out⟩

set_option maxRecDepth 100000 in
set_option maxHeartbeats 4000000 in
theorem kv_0_1_2 (w : World) (g : Gd w) : Calls Tryz.prog 41 #[.int .i64 0, .int .i64 1, .int .i64 2] w (Ret w (.agg #[.string ⟨#[48]⟩, .string ⟨#[49]⟩, .string ⟨#[50]⟩])) := by
  have HG := Lib.hid g
  clear g
  go_enter Tryz.func41, Tryz.ntmps41
  go_wp2_with fail
  refine (k15_1 _ (HG.out.ext ((Ext.refl w).alloc _))).mono ?_; rintro e w1 ⟨rfl, e1⟩
  have HX1 : Hid (Ext w w1) := Lib.hid (((Ext.refl w).alloc _).trans e1)
  have HB0_1 : Hid (Blk w1 (w.heap.size) #[.string ⟨#[]⟩, .string ⟨#[]⟩, .string ⟨#[]⟩] 37) := Lib.hid (Blk.ext (Blk.new' (w := _) (cs := #[.string ⟨#[]⟩, .string ⟨#[]⟩, .string ⟨#[]⟩]) (t := 37) (by first | rfl | (simp only [World.size_alloc]; done) | (simp only [World.size_alloc]; omega) | simp)) e1)
  have HGEB0 : Hid (w.heap.size ≤ w.heap.size) := Lib.hid (by first | omega | (simp only []; omega) | (simp; omega))
  clear e1
  go_wp2_with fail
  refine (k15_0 _ (HG.out.ext HX1.out)).mono ?_; rintro e w2 ⟨rfl, e2⟩
  have HX2 : Hid (Ext w w2) := Lib.hid (HX1.out.trans e2)
  have HB0_2 := Lib.hid (Blk.ext HB0_1.out e2)
  clear e2
  go_wp2_with fail
  refine (k15_2 _ (HG.out.ext HX2.out)).mono ?_; rintro e w3 ⟨rfl, e3⟩
  have HX3 : Hid (Ext w w3) := Lib.hid (HX2.out.trans e3)
  have HB0_3 := Lib.hid (Blk.ext HB0_2.out e3)
  clear e3
  have c0_0 := HB0_3.out.cell 0 rfl
  have f0_0 := HB0_3.out.free 0
  have c0_1 := HB0_3.out.cell 1 rfl
  have f0_1 := HB0_3.out.free 1
  have c0_2 := HB0_3.out.cell 2 rfl
  have f0_2 := HB0_3.out.free 2
  go_wp2_with fail
  refine wp_name (fun W => Ext w W ∧ Blk W (w.heap.size) #[.string ⟨#[48]⟩, .string ⟨#[49]⟩, .string ⟨#[50]⟩] 37) ⟨(((HX3.out.setCell (by have := HGEB0.out; first | omega | (simp only []; omega) | (simp; omega)) _).setCell (by have := HGEB0.out; first | omega | (simp only []; omega) | (simp; omega)) _).setCell (by have := HGEB0.out; first | omega | (simp only []; omega) | (simp; omega)) _), (((HB0_3.out.set 0 (.string ⟨#[48]⟩)).set 1 (.string ⟨#[49]⟩)).set 2 (.string ⟨#[50]⟩))⟩ ?_
  rintro w4 ⟨e4, bB0_4⟩
  have HX4 := Lib.hid e4; have HB0_4 := Lib.hid bB0_4
  clear e4 bB0_4 c0_0 f0_0 c0_1 f0_1 c0_2 f0_2
  have gB0_0 := HB0_4.out.cell 0 rfl
  have gB0_1 := HB0_4.out.cell 1 rfl
  have gB0_2 := HB0_4.out.cell 2 rfl
  refine bodyPost_ret (v := .agg #[.string ⟨#[48]⟩, .string ⟨#[49]⟩, .string ⟨#[50]⟩]) (by simp [results, Tryz.results41, go_sem, gB0_0, gB0_1, gB0_2]) rfl ⟨rfl, HX4.out⟩

set_option maxRecDepth 100000 in
set_option maxHeartbeats 4000000 in
theorem kv_m1_m2_1 (w : World) (g : Gd w) : Calls Tryz.prog 41 #[.int .i64 (-1), .int .i64 (-2), .int .i64 1] w (Ret w (.agg #[.string ⟨#[45, 49]⟩, .string ⟨#[45, 50]⟩, .string ⟨#[49]⟩])) := by
  have HG := Lib.hid g
  clear g
  go_enter Tryz.func41, Tryz.ntmps41
  go_wp2_with fail
  refine (k15_3 _ (HG.out.ext ((Ext.refl w).alloc _))).mono ?_; rintro e w1 ⟨rfl, e1⟩
  have HX1 : Hid (Ext w w1) := Lib.hid (((Ext.refl w).alloc _).trans e1)
  have HB0_1 : Hid (Blk w1 (w.heap.size) #[.string ⟨#[]⟩, .string ⟨#[]⟩, .string ⟨#[]⟩] 37) := Lib.hid (Blk.ext (Blk.new' (w := _) (cs := #[.string ⟨#[]⟩, .string ⟨#[]⟩, .string ⟨#[]⟩]) (t := 37) (by first | rfl | (simp only [World.size_alloc]; done) | (simp only [World.size_alloc]; omega) | simp)) e1)
  have HGEB0 : Hid (w.heap.size ≤ w.heap.size) := Lib.hid (by first | omega | (simp only []; omega) | (simp; omega))
  clear e1
  go_wp2_with fail
  refine (k15_4 _ (HG.out.ext HX1.out)).mono ?_; rintro e w2 ⟨rfl, e2⟩
  have HX2 : Hid (Ext w w2) := Lib.hid (HX1.out.trans e2)
  have HB0_2 := Lib.hid (Blk.ext HB0_1.out e2)
  clear e2
  go_wp2_with fail
  refine (k15_0 _ (HG.out.ext HX2.out)).mono ?_; rintro e w3 ⟨rfl, e3⟩
  have HX3 : Hid (Ext w w3) := Lib.hid (HX2.out.trans e3)
  have HB0_3 := Lib.hid (Blk.ext HB0_2.out e3)
  clear e3
  have c0_0 := HB0_3.out.cell 0 rfl
  have f0_0 := HB0_3.out.free 0
  have c0_1 := HB0_3.out.cell 1 rfl
  have f0_1 := HB0_3.out.free 1
  have c0_2 := HB0_3.out.cell 2 rfl
  have f0_2 := HB0_3.out.free 2
  go_wp2_with fail
  refine wp_name (fun W => Ext w W ∧ Blk W (w.heap.size) #[.string ⟨#[45, 49]⟩, .string ⟨#[45, 50]⟩, .string ⟨#[49]⟩] 37) ⟨(((HX3.out.setCell (by have := HGEB0.out; first | omega | (simp only []; omega) | (simp; omega)) _).setCell (by have := HGEB0.out; first | omega | (simp only []; omega) | (simp; omega)) _).setCell (by have := HGEB0.out; first | omega | (simp only []; omega) | (simp; omega)) _), (((HB0_3.out.set 0 (.string ⟨#[45, 49]⟩)).set 1 (.string ⟨#[45, 50]⟩)).set 2 (.string ⟨#[49]⟩))⟩ ?_
  rintro w4 ⟨e4, bB0_4⟩
  have HX4 := Lib.hid e4; have HB0_4 := Lib.hid bB0_4
  clear e4 bB0_4 c0_0 f0_0 c0_1 f0_1 c0_2 f0_2
  have gB0_0 := HB0_4.out.cell 0 rfl
  have gB0_1 := HB0_4.out.cell 1 rfl
  have gB0_2 := HB0_4.out.cell 2 rfl
  refine bodyPost_ret (v := .agg #[.string ⟨#[45, 49]⟩, .string ⟨#[45, 50]⟩, .string ⟨#[49]⟩]) (by simp [results, Tryz.results41, go_sem, gB0_0, gB0_1, gB0_2]) rfl ⟨rfl, HX4.out⟩

set_option maxRecDepth 100000 in
set_option maxHeartbeats 4000000 in
theorem kv_1_2 (w : World) (g : Gd w) : Calls Tryz.prog 42 #[.int .i64 1, .int .i64 2] w (Ret w (.agg #[.string ⟨#[49]⟩, .string ⟨#[50]⟩])) := by
  have HG := Lib.hid g
  clear g
  go_enter Tryz.func42, Tryz.ntmps42
  go_wp2_with fail
  refine (k15_0 _ (HG.out.ext ((Ext.refl w).alloc _))).mono ?_; rintro e w1 ⟨rfl, e1⟩
  have HX1 : Hid (Ext w w1) := Lib.hid (((Ext.refl w).alloc _).trans e1)
  have HB0_1 : Hid (Blk w1 (w.heap.size) #[.string ⟨#[]⟩, .string ⟨#[]⟩] 24) := Lib.hid (Blk.ext (Blk.new' (w := _) (cs := #[.string ⟨#[]⟩, .string ⟨#[]⟩]) (t := 24) (by first | rfl | (simp only [World.size_alloc]; done) | (simp only [World.size_alloc]; omega) | simp)) e1)
  have HGEB0 : Hid (w.heap.size ≤ w.heap.size) := Lib.hid (by first | omega | (simp only []; omega) | (simp; omega))
  clear e1
  go_wp2_with fail
  refine (k15_2 _ (HG.out.ext HX1.out)).mono ?_; rintro e w2 ⟨rfl, e2⟩
  have HX2 : Hid (Ext w w2) := Lib.hid (HX1.out.trans e2)
  have HB0_2 := Lib.hid (Blk.ext HB0_1.out e2)
  clear e2
  have c0_0 := HB0_2.out.cell 0 rfl
  have f0_0 := HB0_2.out.free 0
  have c0_1 := HB0_2.out.cell 1 rfl
  have f0_1 := HB0_2.out.free 1
  go_wp2_with fail
  refine wp_name (fun W => Ext w W ∧ Blk W (w.heap.size) #[.string ⟨#[49]⟩, .string ⟨#[50]⟩] 24) ⟨((HX2.out.setCell (by have := HGEB0.out; first | omega | (simp only []; omega) | (simp; omega)) _).setCell (by have := HGEB0.out; first | omega | (simp only []; omega) | (simp; omega)) _), ((HB0_2.out.set 0 (.string ⟨#[49]⟩)).set 1 (.string ⟨#[50]⟩))⟩ ?_
  rintro w3 ⟨e3, bB0_3⟩
  have HX3 := Lib.hid e3; have HB0_3 := Lib.hid bB0_3
  clear e3 bB0_3 c0_0 f0_0 c0_1 f0_1
  have gB0_0 := HB0_3.out.cell 0 rfl
  have gB0_1 := HB0_3.out.cell 1 rfl
  refine bodyPost_ret (v := .agg #[.string ⟨#[49]⟩, .string ⟨#[50]⟩]) (by simp [results, Tryz.results42, go_sem, gB0_0, gB0_1]) rfl ⟨rfl, HX3.out⟩

set_option maxRecDepth 100000 in
set_option maxHeartbeats 4000000 in
theorem kv_1_1 (w : World) (g : Gd w) : Calls Tryz.prog 42 #[.int .i64 1, .int .i64 1] w (Ret w (.agg #[.string ⟨#[49]⟩, .string ⟨#[49]⟩])) := by
  have HG := Lib.hid g
  clear g
  go_enter Tryz.func42, Tryz.ntmps42
  go_wp2_with fail
  refine (k15_0 _ (HG.out.ext ((Ext.refl w).alloc _))).mono ?_; rintro e w1 ⟨rfl, e1⟩
  have HX1 : Hid (Ext w w1) := Lib.hid (((Ext.refl w).alloc _).trans e1)
  have HB0_1 : Hid (Blk w1 (w.heap.size) #[.string ⟨#[]⟩, .string ⟨#[]⟩] 24) := Lib.hid (Blk.ext (Blk.new' (w := _) (cs := #[.string ⟨#[]⟩, .string ⟨#[]⟩]) (t := 24) (by first | rfl | (simp only [World.size_alloc]; done) | (simp only [World.size_alloc]; omega) | simp)) e1)
  have HGEB0 : Hid (w.heap.size ≤ w.heap.size) := Lib.hid (by first | omega | (simp only []; omega) | (simp; omega))
  clear e1
  go_wp2_with fail
  refine (k15_0 _ (HG.out.ext HX1.out)).mono ?_; rintro e w2 ⟨rfl, e2⟩
  have HX2 : Hid (Ext w w2) := Lib.hid (HX1.out.trans e2)
  have HB0_2 := Lib.hid (Blk.ext HB0_1.out e2)
  clear e2
  have c0_0 := HB0_2.out.cell 0 rfl
  have f0_0 := HB0_2.out.free 0
  have c0_1 := HB0_2.out.cell 1 rfl
  have f0_1 := HB0_2.out.free 1
  go_wp2_with fail
  refine wp_name (fun W => Ext w W ∧ Blk W (w.heap.size) #[.string ⟨#[49]⟩, .string ⟨#[49]⟩] 24) ⟨((HX2.out.setCell (by have := HGEB0.out; first | omega | (simp only []; omega) | (simp; omega)) _).setCell (by have := HGEB0.out; first | omega | (simp only []; omega) | (simp; omega)) _), ((HB0_2.out.set 0 (.string ⟨#[49]⟩)).set 1 (.string ⟨#[49]⟩))⟩ ?_
  rintro w3 ⟨e3, bB0_3⟩
  have HX3 := Lib.hid e3; have HB0_3 := Lib.hid bB0_3
  clear e3 bB0_3 c0_0 f0_0 c0_1 f0_1
  have gB0_0 := HB0_3.out.cell 0 rfl
  have gB0_1 := HB0_3.out.cell 1 rfl
  refine bodyPost_ret (v := .agg #[.string ⟨#[49]⟩, .string ⟨#[49]⟩]) (by simp [results, Tryz.results42, go_sem, gB0_0, gB0_1]) rfl ⟨rfl, HX3.out⟩

set_option maxRecDepth 100000 in
set_option maxHeartbeats 4000000 in
theorem ktoward (w : World) (g : Gd w) : Calls Tryz.prog 34 #[.agg #[.string ⟨#[49]⟩, .string ⟨#[48]⟩, .string ⟨#[49]⟩]] w (Ret w (.tuple #[.agg #[.string ⟨#[49]⟩, .string ⟨#[48]⟩], .int .i64 0])) := by
  have HG := Lib.hid g
  clear g
  go_enter Tryz.func34, Tryz.ntmps34
  go_wp2_with fail
  refine (k15_5 _ (HG.out.ext (((Ext.refl w).alloc _).alloc _))).mono ?_; rintro e w1 ⟨rfl, e1⟩
  have HX1 : Hid (Ext w w1) := Lib.hid ((((Ext.refl w).alloc _).alloc _).trans e1)
  have HB0_1 : Hid (Blk w1 (w.heap.size) #[.string ⟨#[49]⟩, .string ⟨#[48]⟩, .string ⟨#[49]⟩] 37) := Lib.hid (Blk.ext ((Blk.new' (w := _) (cs := #[.string ⟨#[49]⟩, .string ⟨#[48]⟩, .string ⟨#[49]⟩]) (t := 37) (by first | rfl | (simp only [World.size_alloc]; done) | (simp only [World.size_alloc]; omega) | simp)).alloc _) e1)
  have HB1_1 : Hid (Blk w1 (w.heap.size + 1) #[.string ⟨#[]⟩, .string ⟨#[]⟩] 24) := Lib.hid (Blk.ext (Blk.new' (w := _) (cs := #[.string ⟨#[]⟩, .string ⟨#[]⟩]) (t := 24) (by first | rfl | (simp only [World.size_alloc]; done) | (simp only [World.size_alloc]; omega) | simp)) e1)
  have HGEB0 : Hid (w.heap.size ≤ w.heap.size) := Lib.hid (by first | omega | (simp only []; omega) | (simp; omega))
  have HGEB1 : Hid (w.heap.size ≤ w.heap.size + 1) := Lib.hid (by first | omega | (simp only []; omega) | (simp; omega))
  clear e1
  have c0_0 := HB0_1.out.cell 0 rfl
  have c0_1 := HB0_1.out.cell 1 rfl
  go_upto_region 7 with fail
  refine wp_name (fun W => Ext w W ∧ Blk W (w.heap.size) #[.string ⟨#[49]⟩, .string ⟨#[48]⟩, .string ⟨#[49]⟩] 37 ∧ Blk W (w.heap.size + 1) #[.string ⟨#[]⟩, .string ⟨#[]⟩] 24 ∧ Blk W (w1.heap.size) #[.string ⟨#[49]⟩, .string ⟨#[48]⟩, .string ⟨#[48]⟩] 37) ⟨(HX1.out.alloc _), (HB0_1.out.alloc _), (HB1_1.out.alloc _), (Blk.new' (w := _) (cs := #[.string ⟨#[49]⟩, .string ⟨#[48]⟩, .string ⟨#[48]⟩]) (t := 37) (by first | rfl | (simp only [World.size_alloc]; done) | (simp only [World.size_alloc]; omega) | simp))⟩ ?_
  rintro w2 ⟨e2, bB0_2, bB1_2, bB2_2⟩
  have HX2 := Lib.hid e2; have HB0_2 := Lib.hid bB0_2; have HB1_2 := Lib.hid bB1_2; have HB2_2 := Lib.hid bB2_2
  have HGEB2 : Hid (w.heap.size ≤ w1.heap.size) := Lib.hid (by have := HX1.out.size; first | omega | (simp only []; omega) | (simp; omega))
  clear e2 bB0_2 bB1_2 bB2_2 c0_0 c0_1
  have c0_2 := HB0_2.out.cell 2 rfl
  go_wp2_with fail
  refine (k15_6 _ (HG.out.ext HX2.out)).mono ?_; rintro e _ ⟨rfl, rfl⟩
  clear c0_2
  have c2_0 := HB2_2.out.cell 0 rfl
  have c2_1 := HB2_2.out.cell 1 rfl
  have c2_2 := HB2_2.out.cell 2 rfl
  go_wp2_with fail
  refine (k15_7 _ (HG.out.ext HX2.out)).mono ?_; rintro e w3 ⟨rfl, e3⟩
  have HX3 : Hid (Ext w w3) := Lib.hid (HX2.out.trans e3)
  have HB1_3 := Lib.hid (Blk.ext HB1_2.out e3)
  clear e3 c2_0 c2_1 c2_2
  go_upto_region 12 with fail
  refine wp_name (fun W => Ext w W ∧ Blk W (w.heap.size + 1) #[.string ⟨#[]⟩, .string ⟨#[]⟩] 24 ∧ Blk W (w3.heap.size) #[.string ⟨#[49]⟩, .string ⟨#[48]⟩, .string ⟨#[48]⟩] 37) ⟨(HX3.out.alloc _), (HB1_3.out.alloc _), (Blk.new' (w := _) (cs := #[.string ⟨#[49]⟩, .string ⟨#[48]⟩, .string ⟨#[48]⟩]) (t := 37) (by first | rfl | (simp only [World.size_alloc]; done) | (simp only [World.size_alloc]; omega) | simp))⟩ ?_
  rintro w4 ⟨e4, bB1_4, bB3_4⟩
  have HX4 := Lib.hid e4; have HB1_4 := Lib.hid bB1_4; have HB3_4 := Lib.hid bB3_4
  have HGEB3 : Hid (w.heap.size ≤ w3.heap.size) := Lib.hid (by have := HX3.out.size; first | omega | (simp only []; omega) | (simp; omega))
  clear e4 bB1_4 bB3_4
  have c3_0 := HB3_4.out.cell 0 rfl
  have c3_1 := HB3_4.out.cell 1 rfl
  have c1_0 := HB1_4.out.cell 0 rfl
  have f1_0 := HB1_4.out.free 0
  have c1_1 := HB1_4.out.cell 1 rfl
  have f1_1 := HB1_4.out.free 1
  go_wp2_with fail
  refine wp_name (fun W => Ext w W ∧ Blk W (w.heap.size + 1) #[.string ⟨#[49]⟩, .string ⟨#[48]⟩] 24) ⟨((HX4.out.setCell (by have := HGEB1.out; first | omega | (simp only []; omega) | (simp; omega)) _).setCell (by have := HGEB1.out; first | omega | (simp only []; omega) | (simp; omega)) _), ((HB1_4.out.set 0 (.string ⟨#[49]⟩)).set 1 (.string ⟨#[48]⟩))⟩ ?_
  rintro w5 ⟨e5, bB1_5⟩
  have HX5 := Lib.hid e5; have HB1_5 := Lib.hid bB1_5
  clear e5 bB1_5 c3_0 c3_1 c1_0 f1_0 c1_1 f1_1
  have gB1_0 := HB1_5.out.cell 0 rfl
  have gB1_1 := HB1_5.out.cell 1 rfl
  refine bodyPost_ret (v := .tuple #[.agg #[.string ⟨#[49]⟩, .string ⟨#[48]⟩], .int .i64 0]) (by simp [results, Tryz.results34, go_sem, gB1_0, gB1_1]) rfl ⟨rfl, HX5.out⟩

set_option maxRecDepth 100000 in
set_option maxHeartbeats 4000000 in
theorem kstrike (w : World) (g : Gd w) : Calls Tryz.prog 35 #[.agg #[.string ⟨#[49]⟩, .string ⟨#[48]⟩, .string ⟨#[49]⟩]] w (Ret w (.tuple #[.agg #[.string ⟨#[48]⟩, .string ⟨#[49]⟩], .int .i64 0])) := by
  have HG := Lib.hid g
  clear g
  go_enter Tryz.func35, Tryz.ntmps35
  go_wp2_with fail
  refine (ktoward _ (HG.out.ext (((Ext.refl w).alloc _).alloc _))).mono ?_; rintro e w1 ⟨rfl, e1⟩
  have HX1 : Hid (Ext w w1) := Lib.hid ((((Ext.refl w).alloc _).alloc _).trans e1)
  have HB1_1 : Hid (Blk w1 (w.heap.size + 1) #[.string ⟨#[]⟩, .string ⟨#[]⟩] 24) := Lib.hid (Blk.ext (Blk.new' (w := _) (cs := #[.string ⟨#[]⟩, .string ⟨#[]⟩]) (t := 24) (by first | rfl | (simp only [World.size_alloc]; done) | (simp only [World.size_alloc]; omega) | simp)) e1)
  have HGEB1 : Hid (w.heap.size ≤ w.heap.size + 1) := Lib.hid (by first | omega | (simp only []; omega) | (simp; omega))
  clear e1
  go_wp2_with fail
  refine wp_name (fun W => Ext w W ∧ Blk W (w.heap.size + 1) #[.string ⟨#[]⟩, .string ⟨#[]⟩] 24 ∧ Blk W (w1.heap.size) #[.string ⟨#[49]⟩, .string ⟨#[48]⟩] 24) ⟨(HX1.out.alloc _), (HB1_1.out.alloc _), (Blk.new' (w := _) (cs := #[.string ⟨#[49]⟩, .string ⟨#[48]⟩]) (t := 24) (by first | rfl | (simp only [World.size_alloc]; done) | (simp only [World.size_alloc]; omega) | simp))⟩ ?_
  rintro w2 ⟨e2, bB1_2, bB2_2⟩
  have HX2 := Lib.hid e2; have HB1_2 := Lib.hid bB1_2; have HB2_2 := Lib.hid bB2_2
  have HGEB2 : Hid (w.heap.size ≤ w1.heap.size) := Lib.hid (by have := HX1.out.size; first | omega | (simp only []; omega) | (simp; omega))
  clear e2 bB1_2 bB2_2
  refine region_lin_s (X := w) [⟨w.heap.size + 1, #[.string ⟨#[]⟩, .string ⟨#[]⟩], #[.string ⟨#[48]⟩, .string ⟨#[49]⟩], 24⟩] [.val (.pointer (some ⟨w1.heap.size, 1, none⟩)), .val (.string ⟨#[48]⟩), .val (.string ⟨#[48]⟩), .val (.pointer (some ⟨w1.heap.size, 0, none⟩)), .val (.string ⟨#[49]⟩), .val (.agg #[.string ⟨#[48]⟩, .string ⟨#[49]⟩]), .st 0, .val (.int .i64 0)] (by kernel_rfl) (by kernel_rfl) (by kernel_rfl) HX2.out.drew (List.forall_mem_cons.2 ⟨⟨HGEB1.out, HB1_2.out.drew⟩, (fun _ h => by cases h)⟩) dis1 ?_ (fun g2 w3 hx_ hk_ hb_ hm_ hne_ => ?_)
  · skip
    refine RnL.cons (fun g2 A_ W_ hs_ => ?_) ?_
    · have q4_ := (hs_.old 4 (by kernel_rfl) : A_.tmps[4]?.getD undef = .pointer (some ⟨w1.heap.size, 0, none⟩))
      refine Rn.val fun K_ hK_ => ?_
      go_simp
      exact hK_.out _ (Ext.refl _)
    refine RnL.cons (fun g2 A_ W_ hs_ => ?_) ?_
    · have q15_ := hs_.val 0 rfl rfl rfl
      have cB2_1 := ((hs_.keep (fm2 (show w.heap.size + 1 ≠ w1.heap.size from by have := HB1_1.out.lt; first | omega | (simp only []; omega) | (simp; omega)) fm0) HB2_2.out.drew)).cell 1 rfl
      refine Rn.val fun K_ hK_ => ?_
      go_simp
      exact hK_.out _ (Ext.refl _)
    refine RnL.cons (fun g2 A_ W_ hs_ => ?_) ?_
    · have q16_ := hs_.val 1 rfl rfl rfl
      refine Rn.val fun K_ hK_ => ?_
      go_simp
      refine (k15_8 _ (HG.out.ext hs_.1)).mono ?_; rintro e W9_ ⟨rfl, e9_⟩; exact hK_.out _ e9_
    refine RnL.cons (fun g2 A_ W_ hs_ => ?_) ?_
    · have q4_ := (hs_.old 4 (by kernel_rfl) : A_.tmps[4]?.getD undef = .pointer (some ⟨w1.heap.size, 0, none⟩))
      refine Rn.val fun K_ hK_ => ?_
      go_simp
      exact hK_.out _ (Ext.refl _)
    refine RnL.cons (fun g2 A_ W_ hs_ => ?_) ?_
    · have q18_ := hs_.val 3 rfl rfl rfl
      have cB2_0 := ((hs_.keep (fm2 (show w.heap.size + 1 ≠ w1.heap.size from by have := HB1_1.out.lt; first | omega | (simp only []; omega) | (simp; omega)) fm0) HB2_2.out.drew)).cell 0 rfl
      refine Rn.val fun K_ hK_ => ?_
      go_simp
      exact hK_.out _ (Ext.refl _)
    refine RnL.cons (fun g2 A_ W_ hs_ => ?_) ?_
    · have q17_ := hs_.val 2 rfl rfl rfl
      have q19_ := hs_.val 4 rfl rfl rfl
      refine Rn.val fun K_ hK_ => ?_
      go_simp
      exact hK_.out _ (Ext.refl _)
    refine RnL.cons (fun g2 A_ W_ hs_ => ?_) ?_
    · have q2_ := (hs_.old 2 (by kernel_rfl) : A_.tmps[2]?.getD undef = .pointer (some ⟨w.heap.size + 1, 0, none⟩))
      have q20_ := hs_.val 5 rfl rfl rfl
      refine Rn.st (n := 0) rfl fun hB0 K_ hK_ => ?_
      have hB : Blk W_ (w.heap.size + 1) #[.string ⟨#[]⟩, .string ⟨#[]⟩] 24 := hB0; clear hB0
      have c_0 := hB.cell 0 rfl; have f_0 := hB.free 0
      have c_1 := hB.cell 1 rfl; have f_1 := hB.free 1
      have HB := Lib.hid hB; clear hB
      go_simp
      exact hK_.out _ (((Only.refl _ _).set 0 _).set 1 _) ((HB.out.set 0 _).set 1 _)
    refine RnL.cons (fun g2 A_ W_ hs_ => ?_) ?_
    · refine Rn.val fun K_ hK_ => ?_
      go_simp
      exact hK_.out _ (Ext.refl _)
    exact RnL.nil
  simp only [fs, Kd.value, puts, Act.put, List.setIfInBounds_toArray, List.set_cons_zero, List.set_cons_succ]
  have HX3 : Hid (Ext w w3) := Lib.hid hx_
  have HB1_3 : Hid (Blk w3 (w.heap.size + 1) #[.string ⟨#[48]⟩, .string ⟨#[49]⟩] 24) := Lib.hid (hb_ 0 _ rfl)
  clear hx_ hm_ hne_ hk_ hb_
  go_wp2_with fail
  have gB1_0 := HB1_3.out.cell 0 rfl
  have gB1_1 := HB1_3.out.cell 1 rfl
  refine bodyPost_ret (v := .tuple #[.agg #[.string ⟨#[48]⟩, .string ⟨#[49]⟩], .int .i64 0]) (by simp [results, Tryz.results35, go_sem, gB1_0, gB1_1]) rfl ⟨rfl, HX3.out⟩

set_option maxRecDepth 100000 in
set_option maxHeartbeats 4000000 in
theorem kofd (w : World) (g : Gd w) : Calls Tryz.prog 13 #[.agg #[.string ⟨#[49]⟩, .string ⟨#[50]⟩]] w (Ret w (.tuple #[.agg #[.int .i64 0, .string ⟨#[49, 47, 50]⟩], .int .i64 0])) := by
  have HG := Lib.hid g
  clear g
  go_enter Tryz.func13, Tryz.ntmps13
  go_wp2_with fail
  refine (k15_9 _ (HG.out.ext (((Ext.refl w).alloc _).alloc _))).mono ?_; rintro e w1 ⟨rfl, e1⟩
  have HX1 : Hid (Ext w w1) := Lib.hid ((((Ext.refl w).alloc _).alloc _).trans e1)
  have HB0_1 : Hid (Blk w1 (w.heap.size) #[.string ⟨#[49]⟩, .string ⟨#[50]⟩] 24) := Lib.hid (Blk.ext ((Blk.new' (w := _) (cs := #[.string ⟨#[49]⟩, .string ⟨#[50]⟩]) (t := 24) (by first | rfl | (simp only [World.size_alloc]; done) | (simp only [World.size_alloc]; omega) | simp)).alloc _) e1)
  have HB1_1 : Hid (Blk w1 (w.heap.size + 1) #[.int .i64 0, .string ⟨#[]⟩] 28) := Lib.hid (Blk.ext (Blk.new' (w := _) (cs := #[.int .i64 0, .string ⟨#[]⟩]) (t := 28) (by first | rfl | (simp only [World.size_alloc]; done) | (simp only [World.size_alloc]; omega) | simp)) e1)
  have HGEB0 : Hid (w.heap.size ≤ w.heap.size) := Lib.hid (by first | omega | (simp only []; omega) | (simp; omega))
  have HGEB1 : Hid (w.heap.size ≤ w.heap.size + 1) := Lib.hid (by first | omega | (simp only []; omega) | (simp; omega))
  clear e1
  go_wp2_with fail
  refine wp_name (fun W => Ext w W ∧ Blk W (w.heap.size) #[.string ⟨#[49]⟩, .string ⟨#[50]⟩] 24 ∧ Blk W (w.heap.size + 1) #[.int .i64 0, .string ⟨#[]⟩] 28) ⟨HX1.out, HB0_1.out, HB1_1.out⟩ ?_
  rintro w2 ⟨e2, bB0_2, bB1_2⟩
  have HX2 := Lib.hid e2; have HB0_2 := Lib.hid bB0_2; have HB1_2 := Lib.hid bB1_2
  clear e2 bB0_2 bB1_2
  refine region_lin [.val (.pointer (some ⟨w.heap.size, 0, none⟩)), .val (.string ⟨#[49]⟩), .val (.pointer (some ⟨w.heap.size, 1, none⟩)), .val (.string ⟨#[50]⟩), .val (.string ⟨#[49]⟩), .val (.string ⟨#[50]⟩)] (by kernel_rfl) (by kernel_rfl) (by kernel_rfl) ?_ (fun g2 w3 hx_ hm_ hne_ => ?_)
  · skip
    refine RnL.cons (fun g2 A_ W_ hs_ => ?_) ?_
    · have q1_ := (hs_.old 1 (by kernel_rfl) : A_.tmps[1]?.getD undef = .pointer (some ⟨w.heap.size, 0, none⟩))
      refine Rn.val fun K_ hK_ => ?_
      go_simp
      exact hK_.out _ (Ext.refl _)
    refine RnL.cons (fun g2 A_ W_ hs_ => ?_) ?_
    · have q18_ := hs_.val 0 rfl rfl rfl
      have cB0_0 := ((HB0_2.out.drew.ext hs_.1)).cell 0 rfl
      refine Rn.val fun K_ hK_ => ?_
      go_simp
      exact hK_.out _ (Ext.refl _)
    refine RnL.cons (fun g2 A_ W_ hs_ => ?_) ?_
    · have q1_ := (hs_.old 1 (by kernel_rfl) : A_.tmps[1]?.getD undef = .pointer (some ⟨w.heap.size, 0, none⟩))
      refine Rn.val fun K_ hK_ => ?_
      go_simp
      exact hK_.out _ (Ext.refl _)
    refine RnL.cons (fun g2 A_ W_ hs_ => ?_) ?_
    · have q20_ := hs_.val 2 rfl rfl rfl
      have cB0_1 := ((HB0_2.out.drew.ext hs_.1)).cell 1 rfl
      refine Rn.val fun K_ hK_ => ?_
      go_simp
      exact hK_.out _ (Ext.refl _)
    refine RnL.cons (fun g2 A_ W_ hs_ => ?_) ?_
    · have q19_ := hs_.val 1 rfl rfl rfl
      refine Rn.val fun K_ hK_ => ?_
      go_simp
      exact hK_.out _ (Ext.refl _)
    refine RnL.cons (fun g2 A_ W_ hs_ => ?_) ?_
    · have q21_ := hs_.val 3 rfl rfl rfl
      refine Rn.val fun K_ hK_ => ?_
      go_simp
      exact hK_.out _ (Ext.refl _)
    exact RnL.nil
  simp only [fs, Kd.value, puts, Act.put, List.setIfInBounds_toArray, List.set_cons_zero, List.set_cons_succ]
  have HX3 : Hid (Ext w w3) := Lib.hid (HX2.out.drew.trans hx_)
  have HB1_3 := Lib.hid (HB1_2.out.drew.ext hx_)
  clear hx_ hm_ hne_
  go_wp2_with fail
  refine wp_loop_rounds 1 ?_
  rw [rounds_succ]
  go_wp2_with fail
  refine (k15_6 _ (HG.out.ext HX3.out)).mono ?_; rintro e _ ⟨rfl, rfl⟩
  go_wp2_with fail
  refine (k15_10 _ (HG.out.ext HX3.out)).mono ?_; rintro e _ ⟨rfl, rfl⟩
  go_wp2_with fail
  refine (k15_11 _ (HG.out.ext HX3.out)).mono ?_; rintro e w4 ⟨rfl, e4⟩
  have HX4 : Hid (Ext w w4) := Lib.hid (HX3.out.trans e4)
  have HB1_4 := Lib.hid (Blk.ext HB1_3.out e4)
  clear e4
  go_wp2_with fail
  refine (k15_12 _ (HG.out.ext HX4.out)).mono ?_; rintro e w5 ⟨rfl, e5⟩
  have HX5 : Hid (Ext w w5) := Lib.hid (HX4.out.trans e5)
  have HB1_5 := Lib.hid (Blk.ext HB1_4.out e5)
  clear e5
  go_wp2_with fail
  refine (k15_13 _ (HG.out.ext HX5.out)).mono ?_; rintro e w6 ⟨rfl, e6⟩
  have HX6 : Hid (Ext w w6) := Lib.hid (HX5.out.trans e6)
  have HB1_6 := Lib.hid (Blk.ext HB1_5.out e6)
  clear e6
  have c1_0 := HB1_6.out.cell 0 rfl
  have f1_0 := HB1_6.out.free 0
  have c1_1 := HB1_6.out.cell 1 rfl
  have f1_1 := HB1_6.out.free 1
  go_wp2_with fail
  refine wp_name (fun W => Ext w W ∧ Blk W (w.heap.size + 1) #[.int .i64 0, .string ⟨#[49, 47, 50]⟩] 28) ⟨((HX6.out.setCell (by have := HGEB1.out; first | omega | (simp only []; omega) | (simp; omega)) _).setCell (by have := HGEB1.out; first | omega | (simp only []; omega) | (simp; omega)) _), ((HB1_6.out.set 0 (.int .i64 0)).set 1 (.string ⟨#[49, 47, 50]⟩))⟩ ?_
  rintro w7 ⟨e7, bB1_7⟩
  have HX7 := Lib.hid e7; have HB1_7 := Lib.hid bB1_7
  clear e7 bB1_7 c1_0 f1_0 c1_1 f1_1
  have gB1_0 := HB1_7.out.cell 0 rfl
  have gB1_1 := HB1_7.out.cell 1 rfl
  refine bodyPost_ret (v := .tuple #[.agg #[.int .i64 0, .string ⟨#[49, 47, 50]⟩], .int .i64 0]) (by simp [results, Tryz.results13, go_sem, gB1_0, gB1_1]) rfl ⟨rfl, HX7.out⟩

set_option maxRecDepth 100000 in
set_option maxHeartbeats 4000000 in
theorem kthree (w : World) (g : Gd w) : Calls Tryz.prog 43 #[.agg #[.string ⟨#[48]⟩, .string ⟨#[48]⟩, .string ⟨#[48]⟩], .agg #[.string ⟨#[49]⟩, .string ⟨#[48]⟩, .string ⟨#[49]⟩], .agg #[.string ⟨#[48]⟩, .string ⟨#[49]⟩, .string ⟨#[50]⟩]] w (Ret w (.tuple #[.agg #[.string ⟨#[45, 49]⟩, .string ⟨#[45, 50]⟩, .string ⟨#[49]⟩, .string ⟨#[48]⟩], .int .i64 0])) := by
  have HG := Lib.hid g
  clear g
  have ix0 : ∀ W, (Instr.index 99 (.agg #[.string ⟨#[48]⟩, .string ⟨#[48]⟩, .string ⟨#[48]⟩, .string ⟨#[49]⟩, .string ⟨#[48]⟩, .string ⟨#[49]⟩, .string ⟨#[48]⟩, .string ⟨#[49]⟩, .string ⟨#[50]⟩]) (.int .i64 0)).run Tryz.prog W = .ok (.agg #[.string ⟨#[48]⟩, .string ⟨#[48]⟩, .string ⟨#[48]⟩]) W := fun W => by kernel_rfl
  have ix1 : ∀ W, (Instr.index 99 (.agg #[.string ⟨#[48]⟩, .string ⟨#[48]⟩, .string ⟨#[48]⟩, .string ⟨#[49]⟩, .string ⟨#[48]⟩, .string ⟨#[49]⟩, .string ⟨#[48]⟩, .string ⟨#[49]⟩, .string ⟨#[50]⟩]) (.int .i64 1)).run Tryz.prog W = .ok (.agg #[.string ⟨#[49]⟩, .string ⟨#[48]⟩, .string ⟨#[49]⟩]) W := fun W => by kernel_rfl
  have ix2 : ∀ W, (Instr.index 99 (.agg #[.string ⟨#[48]⟩, .string ⟨#[48]⟩, .string ⟨#[48]⟩, .string ⟨#[49]⟩, .string ⟨#[48]⟩, .string ⟨#[49]⟩, .string ⟨#[48]⟩, .string ⟨#[49]⟩, .string ⟨#[50]⟩]) (.int .i64 2)).run Tryz.prog W = .ok (.agg #[.string ⟨#[48]⟩, .string ⟨#[49]⟩, .string ⟨#[50]⟩]) W := fun W => by kernel_rfl
  go_enter Tryz.func43, Tryz.ntmps43
  go_wp2_with fail
  refine wp_loop_rounds 4 ?_
  rw [rounds_succ]
  go_wp2_with fail
  refine (k15_14 _ (HG.out.ext ((((((Ext.refl w).alloc _).alloc _).alloc _).alloc _).alloc _))).mono ?_; rintro e w1 ⟨rfl, e1⟩
  have HX1 : Hid (Ext w w1) := Lib.hid (((((((Ext.refl w).alloc _).alloc _).alloc _).alloc _).alloc _).trans e1)
  have HB0_1 : Hid (Blk w1 (w.heap.size) #[.string ⟨#[48]⟩, .string ⟨#[48]⟩, .string ⟨#[48]⟩] 37) := Lib.hid (Blk.ext (((((Blk.new' (w := _) (cs := #[.string ⟨#[48]⟩, .string ⟨#[48]⟩, .string ⟨#[48]⟩]) (t := 37) (by first | rfl | (simp only [World.size_alloc]; done) | (simp only [World.size_alloc]; omega) | simp)).alloc _).alloc _).alloc _).alloc _) e1)
  have HB1_1 : Hid (Blk w1 (w.heap.size + 1) #[.string ⟨#[49]⟩, .string ⟨#[48]⟩, .string ⟨#[49]⟩] 37) := Lib.hid (Blk.ext ((((Blk.new' (w := _) (cs := #[.string ⟨#[49]⟩, .string ⟨#[48]⟩, .string ⟨#[49]⟩]) (t := 37) (by first | rfl | (simp only [World.size_alloc]; done) | (simp only [World.size_alloc]; omega) | simp)).alloc _).alloc _).alloc _) e1)
  have HB2_1 : Hid (Blk w1 (w.heap.size + 1 + 1) #[.string ⟨#[48]⟩, .string ⟨#[49]⟩, .string ⟨#[50]⟩] 37) := Lib.hid (Blk.ext (((Blk.new' (w := _) (cs := #[.string ⟨#[48]⟩, .string ⟨#[49]⟩, .string ⟨#[50]⟩]) (t := 37) (by first | rfl | (simp only [World.size_alloc]; done) | (simp only [World.size_alloc]; omega) | simp)).alloc _).alloc _) e1)
  have HB3_1 : Hid (Blk w1 (w.heap.size + 1 + 1 + 1) #[.string ⟨#[]⟩, .string ⟨#[]⟩, .string ⟨#[]⟩, .string ⟨#[]⟩] 39) := Lib.hid (Blk.ext ((Blk.new' (w := _) (cs := #[.string ⟨#[]⟩, .string ⟨#[]⟩, .string ⟨#[]⟩, .string ⟨#[]⟩]) (t := 39) (by first | rfl | (simp only [World.size_alloc]; done) | (simp only [World.size_alloc]; omega) | simp)).alloc _) e1)
  have HGEB0 : Hid (w.heap.size ≤ w.heap.size) := Lib.hid (by first | omega | (simp only []; omega) | (simp; omega))
  have HGEB1 : Hid (w.heap.size ≤ w.heap.size + 1) := Lib.hid (by first | omega | (simp only []; omega) | (simp; omega))
  have HGEB2 : Hid (w.heap.size ≤ w.heap.size + 1 + 1) := Lib.hid (by first | omega | (simp only []; omega) | (simp; omega))
  have HGEB3 : Hid (w.heap.size ≤ w.heap.size + 1 + 1 + 1) := Lib.hid (by first | omega | (simp only []; omega) | (simp; omega))
  clear e1
  go_wp2_with fail
  rw [rounds_succ]
  go_upto_region 4 with fail
  refine wp_name (fun W => Ext w W ∧ Blk W (w.heap.size) #[.string ⟨#[48]⟩, .string ⟨#[48]⟩, .string ⟨#[48]⟩] 37 ∧ Blk W (w.heap.size + 1) #[.string ⟨#[49]⟩, .string ⟨#[48]⟩, .string ⟨#[49]⟩] 37 ∧ Blk W (w.heap.size + 1 + 1) #[.string ⟨#[48]⟩, .string ⟨#[49]⟩, .string ⟨#[50]⟩] 37 ∧ Blk W (w.heap.size + 1 + 1 + 1) #[.string ⟨#[]⟩, .string ⟨#[]⟩, .string ⟨#[]⟩, .string ⟨#[]⟩] 39 ∧ Blk W (w1.heap.size) #[.string ⟨#[49]⟩, .string ⟨#[48]⟩, .string ⟨#[49]⟩] 37) ⟨(HX1.out.alloc _), (HB0_1.out.alloc _), (HB1_1.out.alloc _), (HB2_1.out.alloc _), (HB3_1.out.alloc _), (Blk.new' (w := _) (cs := #[.string ⟨#[49]⟩, .string ⟨#[48]⟩, .string ⟨#[49]⟩]) (t := 37) (by first | rfl | (simp only [World.size_alloc]; done) | (simp only [World.size_alloc]; omega) | simp))⟩ ?_
  rintro w2 ⟨e2, bB0_2, bB1_2, bB2_2, bB3_2, bB5_2⟩
  have HX2 := Lib.hid e2; have HB0_2 := Lib.hid bB0_2; have HB1_2 := Lib.hid bB1_2; have HB2_2 := Lib.hid bB2_2; have HB3_2 := Lib.hid bB3_2; have HB5_2 := Lib.hid bB5_2
  have HGEB5 : Hid (w.heap.size ≤ w1.heap.size) := Lib.hid (by have := HX1.out.size; first | omega | (simp only []; omega) | (simp; omega))
  clear e2 bB0_2 bB1_2 bB2_2 bB3_2 bB5_2
  have c5_0 := HB5_2.out.cell 0 rfl
  have c5_1 := HB5_2.out.cell 1 rfl
  have c5_2 := HB5_2.out.cell 2 rfl
  go_wp2_with fail
  refine (k15_15 _ (HG.out.ext HX2.out)).mono ?_; rintro e w3 ⟨rfl, e3⟩
  have HX3 : Hid (Ext w w3) := Lib.hid (HX2.out.trans e3)
  have HB0_3 := Lib.hid (Blk.ext HB0_2.out e3)
  have HB1_3 := Lib.hid (Blk.ext HB1_2.out e3)
  have HB2_3 := Lib.hid (Blk.ext HB2_2.out e3)
  have HB3_3 := Lib.hid (Blk.ext HB3_2.out e3)
  clear e3 c5_0 c5_1 c5_2
  go_wp2_with fail
  rw [rounds_succ]
  go_upto_region 4 with fail
  refine wp_name (fun W => Ext w W ∧ Blk W (w.heap.size) #[.string ⟨#[48]⟩, .string ⟨#[48]⟩, .string ⟨#[48]⟩] 37 ∧ Blk W (w.heap.size + 1) #[.string ⟨#[49]⟩, .string ⟨#[48]⟩, .string ⟨#[49]⟩] 37 ∧ Blk W (w.heap.size + 1 + 1) #[.string ⟨#[48]⟩, .string ⟨#[49]⟩, .string ⟨#[50]⟩] 37 ∧ Blk W (w.heap.size + 1 + 1 + 1) #[.string ⟨#[]⟩, .string ⟨#[]⟩, .string ⟨#[]⟩, .string ⟨#[]⟩] 39 ∧ Blk W (w3.heap.size) #[.string ⟨#[48]⟩, .string ⟨#[49]⟩, .string ⟨#[50]⟩] 37) ⟨(HX3.out.alloc _), (HB0_3.out.alloc _), (HB1_3.out.alloc _), (HB2_3.out.alloc _), (HB3_3.out.alloc _), (Blk.new' (w := _) (cs := #[.string ⟨#[48]⟩, .string ⟨#[49]⟩, .string ⟨#[50]⟩]) (t := 37) (by first | rfl | (simp only [World.size_alloc]; done) | (simp only [World.size_alloc]; omega) | simp))⟩ ?_
  rintro w4 ⟨e4, bB0_4, bB1_4, bB2_4, bB3_4, bB6_4⟩
  have HX4 := Lib.hid e4; have HB0_4 := Lib.hid bB0_4; have HB1_4 := Lib.hid bB1_4; have HB2_4 := Lib.hid bB2_4; have HB3_4 := Lib.hid bB3_4; have HB6_4 := Lib.hid bB6_4
  have HGEB6 : Hid (w.heap.size ≤ w3.heap.size) := Lib.hid (by have := HX3.out.size; first | omega | (simp only []; omega) | (simp; omega))
  clear e4 bB0_4 bB1_4 bB2_4 bB3_4 bB6_4
  have c6_0 := HB6_4.out.cell 0 rfl
  have c6_1 := HB6_4.out.cell 1 rfl
  have c6_2 := HB6_4.out.cell 2 rfl
  go_wp2_with fail
  refine (k15_16 _ (HG.out.ext HX4.out)).mono ?_; rintro e w5 ⟨rfl, e5⟩
  have HX5 : Hid (Ext w w5) := Lib.hid (HX4.out.trans e5)
  have HB0_5 := Lib.hid (Blk.ext HB0_4.out e5)
  have HB1_5 := Lib.hid (Blk.ext HB1_4.out e5)
  have HB2_5 := Lib.hid (Blk.ext HB2_4.out e5)
  have HB3_5 := Lib.hid (Blk.ext HB3_4.out e5)
  clear e5 c6_0 c6_1 c6_2
  go_wp2_with fail
  rw [rounds_succ]
  go_wp2_with fail
  refine wp_name (fun W => Ext w W ∧ Blk W (w.heap.size) #[.string ⟨#[48]⟩, .string ⟨#[48]⟩, .string ⟨#[48]⟩] 37 ∧ Blk W (w.heap.size + 1) #[.string ⟨#[49]⟩, .string ⟨#[48]⟩, .string ⟨#[49]⟩] 37 ∧ Blk W (w.heap.size + 1 + 1) #[.string ⟨#[48]⟩, .string ⟨#[49]⟩, .string ⟨#[50]⟩] 37 ∧ Blk W (w.heap.size + 1 + 1 + 1) #[.string ⟨#[]⟩, .string ⟨#[]⟩, .string ⟨#[]⟩, .string ⟨#[]⟩] 39) ⟨HX5.out, HB0_5.out, HB1_5.out, HB2_5.out, HB3_5.out⟩ ?_
  rintro w6 ⟨e6, bB0_6, bB1_6, bB2_6, bB3_6⟩
  have HX6 := Lib.hid e6; have HB0_6 := Lib.hid bB0_6; have HB1_6 := Lib.hid bB1_6; have HB2_6 := Lib.hid bB2_6; have HB3_6 := Lib.hid bB3_6
  clear e6 bB0_6 bB1_6 bB2_6 bB3_6
  refine region_lin [.val (.func (.func 70) #[] #[]), .val (.agg #[.string ⟨#[49]⟩, .string ⟨#[48]⟩, .string ⟨#[49]⟩]), .val (.agg #[.string ⟨#[48]⟩, .string ⟨#[48]⟩, .string ⟨#[48]⟩]), .val (.agg #[.string ⟨#[49]⟩, .string ⟨#[48]⟩, .string ⟨#[49]⟩]), .val (.func (.func 70) #[] #[]), .val (.agg #[.string ⟨#[48]⟩, .string ⟨#[49]⟩, .string ⟨#[50]⟩]), .val (.agg #[.string ⟨#[48]⟩, .string ⟨#[48]⟩, .string ⟨#[48]⟩]), .val (.agg #[.string ⟨#[48]⟩, .string ⟨#[49]⟩, .string ⟨#[50]⟩]), .mem (fun b_ => .pointer (some ⟨b_, 0, none⟩)) #[.string ⟨#[]⟩, .string ⟨#[]⟩, .string ⟨#[]⟩] 37 (Option.some 10), .mem (fun b_ => .pointer (some ⟨b_, 0, none⟩)) #[.string ⟨#[]⟩, .string ⟨#[]⟩, .string ⟨#[]⟩] 37 (Option.some 11), .put 8 #[.string ⟨#[49]⟩, .string ⟨#[48]⟩, .string ⟨#[49]⟩], .put 9 #[.string ⟨#[48]⟩, .string ⟨#[49]⟩, .string ⟨#[50]⟩]] (by kernel_rfl) (by kernel_rfl) (by kernel_rfl) ?_ (fun g6 w7 hx_ hm_ hne_ => ?_)
  · skip
    refine RnL.cons (fun g6 A_ W_ hs_ => ?_) ?_
    · have q10_ := (hs_.old 10 (by kernel_rfl) : A_.tmps[10]?.getD undef = .func (.func 70) #[] #[])
      refine Rn.val fun K_ hK_ => ?_
      go_simp
      exact hK_.out _ (Ext.refl _)
    refine RnL.cons (fun g6 A_ W_ hs_ => ?_) ?_
    · have q4_ := (hs_.old 4 (by kernel_rfl) : A_.tmps[4]?.getD undef = .pointer (some ⟨w.heap.size + 1, 0, none⟩))
      have cB1_0 := ((HB1_6.out.drew.ext hs_.1)).cell 0 rfl
      have cB1_1 := ((HB1_6.out.drew.ext hs_.1)).cell 1 rfl
      have cB1_2 := ((HB1_6.out.drew.ext hs_.1)).cell 2 rfl
      refine Rn.val fun K_ hK_ => ?_
      go_simp
      exact hK_.out _ (Ext.refl _)
    refine RnL.cons (fun g6 A_ W_ hs_ => ?_) ?_
    · have q3_ := (hs_.old 3 (by kernel_rfl) : A_.tmps[3]?.getD undef = .pointer (some ⟨w.heap.size, 0, none⟩))
      have cB0_0 := ((HB0_6.out.drew.ext hs_.1)).cell 0 rfl
      have cB0_1 := ((HB0_6.out.drew.ext hs_.1)).cell 1 rfl
      have cB0_2 := ((HB0_6.out.drew.ext hs_.1)).cell 2 rfl
      refine Rn.val fun K_ hK_ => ?_
      go_simp
      exact hK_.out _ (Ext.refl _)
    refine RnL.cons (fun g6 A_ W_ hs_ => ?_) ?_
    · have q31_ := hs_.val 0 rfl rfl rfl
      have q32_ := hs_.val 1 rfl rfl rfl
      have q33_ := hs_.val 2 rfl rfl rfl
      refine Rn.val fun K_ hK_ => ?_
      go_simp
      refine (k15_17 _ (HG.out.ext (HX6.out.drew.trans hs_.1))).mono ?_; rintro e W9_ ⟨rfl, e9_⟩; exact hK_.out _ e9_
    refine RnL.cons (fun g6 A_ W_ hs_ => ?_) ?_
    · have q10_ := (hs_.old 10 (by kernel_rfl) : A_.tmps[10]?.getD undef = .func (.func 70) #[] #[])
      refine Rn.val fun K_ hK_ => ?_
      go_simp
      exact hK_.out _ (Ext.refl _)
    refine RnL.cons (fun g6 A_ W_ hs_ => ?_) ?_
    · have q5_ := (hs_.old 5 (by kernel_rfl) : A_.tmps[5]?.getD undef = .pointer (some ⟨w.heap.size + 1 + 1, 0, none⟩))
      have cB2_0 := ((HB2_6.out.drew.ext hs_.1)).cell 0 rfl
      have cB2_1 := ((HB2_6.out.drew.ext hs_.1)).cell 1 rfl
      have cB2_2 := ((HB2_6.out.drew.ext hs_.1)).cell 2 rfl
      refine Rn.val fun K_ hK_ => ?_
      go_simp
      exact hK_.out _ (Ext.refl _)
    refine RnL.cons (fun g6 A_ W_ hs_ => ?_) ?_
    · have q3_ := (hs_.old 3 (by kernel_rfl) : A_.tmps[3]?.getD undef = .pointer (some ⟨w.heap.size, 0, none⟩))
      have cB0_0 := ((HB0_6.out.drew.ext hs_.1)).cell 0 rfl
      have cB0_1 := ((HB0_6.out.drew.ext hs_.1)).cell 1 rfl
      have cB0_2 := ((HB0_6.out.drew.ext hs_.1)).cell 2 rfl
      refine Rn.val fun K_ hK_ => ?_
      go_simp
      exact hK_.out _ (Ext.refl _)
    refine RnL.cons (fun g6 A_ W_ hs_ => ?_) ?_
    · have q35_ := hs_.val 4 rfl rfl rfl
      have q36_ := hs_.val 5 rfl rfl rfl
      have q37_ := hs_.val 6 rfl rfl rfl
      refine Rn.val fun K_ hK_ => ?_
      go_simp
      refine (k15_18 _ (HG.out.ext (HX6.out.drew.trans hs_.1))).mono ?_; rintro e W9_ ⟨rfl, e9_⟩; exact hK_.out _ e9_
    refine RnL.cons (fun g6 A_ W_ hs_ => ?_) ?_
    · refine Rn.mem fun K_ hK_ => ?_
      go_simp
      exact hK_.out
    refine RnL.cons (fun g6 A_ W_ hs_ => ?_) ?_
    · refine Rn.mem fun K_ hK_ => ?_
      go_simp
      exact hK_.out
    refine RnL.cons (fun g6 A_ W_ hs_ => ?_) ?_
    · have q11_ := (hs_.mem 8 rfl rfl rfl).1
      have q34_ := hs_.val 3 rfl rfl rfl
      refine Rn.put (z := #[.string ⟨#[]⟩, .string ⟨#[]⟩, .string ⟨#[]⟩]) (t := 37) rfl fun hB K_ hK_ => ?_
      have c_0 := hB.cell 0 rfl; have f_0 := hB.free 0
      have c_1 := hB.cell 1 rfl; have f_1 := hB.free 1
      have c_2 := hB.cell 2 rfl; have f_2 := hB.free 2
      have HB := Lib.hid hB; clear hB
      go_simp
      exact hK_.out _ ((((Only.refl _ _).set 0 _).set 1 _).set 2 _) (((HB.out.set 0 _).set 1 _).set 2 _)
    refine RnL.cons (fun g6 A_ W_ hs_ => ?_) ?_
    · have q12_ := (hs_.mem 9 rfl rfl rfl).1
      have q38_ := hs_.val 7 rfl rfl rfl
      refine Rn.put (z := #[.string ⟨#[]⟩, .string ⟨#[]⟩, .string ⟨#[]⟩]) (t := 37) rfl fun hB K_ hK_ => ?_
      have c_0 := hB.cell 0 rfl; have f_0 := hB.free 0
      have c_1 := hB.cell 1 rfl; have f_1 := hB.free 1
      have c_2 := hB.cell 2 rfl; have f_2 := hB.free 2
      have HB := Lib.hid hB; clear hB
      go_simp
      exact hK_.out _ ((((Only.refl _ _).set 0 _).set 1 _).set 2 _) (((HB.out.set 0 _).set 1 _).set 2 _)
    exact RnL.nil
  simp only [fs, Kd.value, puts, Act.put, List.setIfInBounds_toArray, List.set_cons_zero, List.set_cons_succ, Nat.reduceAdd]
  have HX7 : Hid (Ext w w7) := Lib.hid (HX6.out.drew.trans hx_)
  have HB0_7 := Lib.hid (HB0_6.out.drew.ext hx_)
  have HB3_7 := Lib.hid (HB3_6.out.drew.ext hx_)
  have HB7_7 : Hid (Blk w7 (g6 8) #[.string ⟨#[49]⟩, .string ⟨#[48]⟩, .string ⟨#[49]⟩] 37) := Lib.hid (hm_ 8 _ _ _ _ rfl).2; have HGEB7 : Hid (w.heap.size ≤ g6 8) := Lib.hid (Nat.le_trans HX6.out.size (hm_ 8 _ _ _ _ rfl).1)
  have HB8_7 : Hid (Blk w7 (g6 9) #[.string ⟨#[48]⟩, .string ⟨#[49]⟩, .string ⟨#[50]⟩] 37) := Lib.hid (hm_ 9 _ _ _ _ rfl).2; have HGEB8 : Hid (w.heap.size ≤ g6 9) := Lib.hid (Nat.le_trans HX6.out.size (hm_ 9 _ _ _ _ rfl).1)
  have HNEB0B7 : Hid (w.heap.size ≠ g6 8) := Lib.hid (Nat.ne_of_lt (Nat.lt_of_lt_of_le HB0_6.out.lt (hm_ 8 _ _ _ _ rfl).1))
  have HNEB0B8 : Hid (w.heap.size ≠ g6 9) := Lib.hid (Nat.ne_of_lt (Nat.lt_of_lt_of_le HB0_6.out.lt (hm_ 9 _ _ _ _ rfl).1))
  have HNEB3B7 : Hid (w.heap.size + 1 + 1 + 1 ≠ g6 8) := Lib.hid (Nat.ne_of_lt (Nat.lt_of_lt_of_le HB3_6.out.lt (hm_ 8 _ _ _ _ rfl).1))
  have HNEB3B8 : Hid (w.heap.size + 1 + 1 + 1 ≠ g6 9) := Lib.hid (Nat.ne_of_lt (Nat.lt_of_lt_of_le HB3_6.out.lt (hm_ 9 _ _ _ _ rfl).1))
  have HNEB7B8 : Hid (g6 8 ≠ g6 9) := Lib.hid (hne_ 8 9 (by decide) ⟨_, _, _, _, rfl⟩ ⟨_, _, _, _, rfl⟩)
  clear hx_ hm_ hne_
  generalize g6 8 = i7 at *
  generalize g6 9 = i8 at *
  clear g6
  go_wp2_with fail
  refine wp_name (fun W => Ext w W ∧ Blk W (w.heap.size) #[.string ⟨#[48]⟩, .string ⟨#[48]⟩, .string ⟨#[48]⟩] 37 ∧ Blk W (w.heap.size + 1 + 1 + 1) #[.string ⟨#[]⟩, .string ⟨#[]⟩, .string ⟨#[]⟩, .string ⟨#[]⟩] 39 ∧ Blk W (i7) #[.string ⟨#[49]⟩, .string ⟨#[48]⟩, .string ⟨#[49]⟩] 37 ∧ Blk W (i8) #[.string ⟨#[48]⟩, .string ⟨#[49]⟩, .string ⟨#[50]⟩] 37) ⟨HX7.out, HB0_7.out, HB3_7.out, HB7_7.out, HB8_7.out⟩ ?_
  rintro w8 ⟨e8, bB0_8, bB3_8, bB7_8, bB8_8⟩
  have HX8 := Lib.hid e8; have HB0_8 := Lib.hid bB0_8; have HB3_8 := Lib.hid bB3_8; have HB7_8 := Lib.hid bB7_8; have HB8_8 := Lib.hid bB8_8
  clear e8 bB0_8 bB3_8 bB7_8 bB8_8
  refine region_lin [.val (.func (.func 71) #[] #[]), .val (.pointer (some ⟨i7, 1, none⟩)), .val (.string ⟨#[48]⟩), .val (.pointer (some ⟨i7, 2, none⟩)), .val (.string ⟨#[49]⟩), .val (.pointer (some ⟨i8, 1, none⟩)), .val (.string ⟨#[49]⟩), .val (.pointer (some ⟨i8, 2, none⟩)), .val (.string ⟨#[50]⟩), .val (.string ⟨#[45, 49]⟩), .val (.func (.func 71) #[] #[]), .val (.pointer (some ⟨i7, 2, none⟩)), .val (.string ⟨#[49]⟩), .val (.pointer (some ⟨i7, 0, none⟩)), .val (.string ⟨#[49]⟩), .val (.pointer (some ⟨i8, 2, none⟩)), .val (.string ⟨#[50]⟩), .val (.pointer (some ⟨i8, 0, none⟩)), .val (.string ⟨#[48]⟩), .val (.string ⟨#[45, 50]⟩), .val (.func (.func 71) #[] #[]), .val (.pointer (some ⟨i7, 0, none⟩)), .val (.string ⟨#[49]⟩), .val (.pointer (some ⟨i7, 1, none⟩)), .val (.string ⟨#[48]⟩), .val (.pointer (some ⟨i8, 0, none⟩)), .val (.string ⟨#[48]⟩), .val (.pointer (some ⟨i8, 1, none⟩)), .val (.string ⟨#[49]⟩), .val (.string ⟨#[49]⟩), .val (.agg #[.string ⟨#[45, 49]⟩, .string ⟨#[45, 50]⟩, .string ⟨#[49]⟩]), .mem (fun b_ => .pointer (some ⟨b_, 0, none⟩)) #[.string ⟨#[]⟩, .string ⟨#[]⟩, .string ⟨#[]⟩] 37 (Option.some 32), .put 31 #[.string ⟨#[45, 49]⟩, .string ⟨#[45, 50]⟩, .string ⟨#[49]⟩]] (by kernel_rfl) (by kernel_rfl) (by kernel_rfl) ?_ (fun g8 w9 hx_ hm_ hne_ => ?_)
  · skip
    refine RnL.cons (fun g8 A_ W_ hs_ => ?_) ?_
    · have q13_ := (hs_.old 13 (by kernel_rfl) : A_.tmps[13]?.getD undef = .func (.func 71) #[] #[])
      refine Rn.val fun K_ hK_ => ?_
      go_simp
      exact hK_.out _ (Ext.refl _)
    refine RnL.cons (fun g8 A_ W_ hs_ => ?_) ?_
    · have q11_ := (hs_.old 11 (by kernel_rfl) : A_.tmps[11]?.getD undef = .pointer (some ⟨i7, 0, none⟩))
      refine Rn.val fun K_ hK_ => ?_
      go_simp
      exact hK_.out _ (Ext.refl _)
    refine RnL.cons (fun g8 A_ W_ hs_ => ?_) ?_
    · have q40_ := hs_.val 1 rfl rfl rfl
      have cB7_1 := ((HB7_8.out.drew.ext hs_.1)).cell 1 rfl
      refine Rn.val fun K_ hK_ => ?_
      go_simp
      exact hK_.out _ (Ext.refl _)
    refine RnL.cons (fun g8 A_ W_ hs_ => ?_) ?_
    · have q11_ := (hs_.old 11 (by kernel_rfl) : A_.tmps[11]?.getD undef = .pointer (some ⟨i7, 0, none⟩))
      refine Rn.val fun K_ hK_ => ?_
      go_simp
      exact hK_.out _ (Ext.refl _)
    refine RnL.cons (fun g8 A_ W_ hs_ => ?_) ?_
    · have q42_ := hs_.val 3 rfl rfl rfl
      have cB7_2 := ((HB7_8.out.drew.ext hs_.1)).cell 2 rfl
      refine Rn.val fun K_ hK_ => ?_
      go_simp
      exact hK_.out _ (Ext.refl _)
    refine RnL.cons (fun g8 A_ W_ hs_ => ?_) ?_
    · have q12_ := (hs_.old 12 (by kernel_rfl) : A_.tmps[12]?.getD undef = .pointer (some ⟨i8, 0, none⟩))
      refine Rn.val fun K_ hK_ => ?_
      go_simp
      exact hK_.out _ (Ext.refl _)
    refine RnL.cons (fun g8 A_ W_ hs_ => ?_) ?_
    · have q44_ := hs_.val 5 rfl rfl rfl
      have cB8_1 := ((HB8_8.out.drew.ext hs_.1)).cell 1 rfl
      refine Rn.val fun K_ hK_ => ?_
      go_simp
      exact hK_.out _ (Ext.refl _)
    refine RnL.cons (fun g8 A_ W_ hs_ => ?_) ?_
    · have q12_ := (hs_.old 12 (by kernel_rfl) : A_.tmps[12]?.getD undef = .pointer (some ⟨i8, 0, none⟩))
      refine Rn.val fun K_ hK_ => ?_
      go_simp
      exact hK_.out _ (Ext.refl _)
    refine RnL.cons (fun g8 A_ W_ hs_ => ?_) ?_
    · have q46_ := hs_.val 7 rfl rfl rfl
      have cB8_2 := ((HB8_8.out.drew.ext hs_.1)).cell 2 rfl
      refine Rn.val fun K_ hK_ => ?_
      go_simp
      exact hK_.out _ (Ext.refl _)
    refine RnL.cons (fun g8 A_ W_ hs_ => ?_) ?_
    · have q39_ := hs_.val 0 rfl rfl rfl
      have q41_ := hs_.val 2 rfl rfl rfl
      have q43_ := hs_.val 4 rfl rfl rfl
      have q45_ := hs_.val 6 rfl rfl rfl
      have q47_ := hs_.val 8 rfl rfl rfl
      refine Rn.val fun K_ hK_ => ?_
      go_simp
      refine (k15_19 _ (HG.out.ext (HX8.out.drew.trans hs_.1))).mono ?_; rintro e W9_ ⟨rfl, e9_⟩; exact hK_.out _ e9_
    refine RnL.cons (fun g8 A_ W_ hs_ => ?_) ?_
    · have q13_ := (hs_.old 13 (by kernel_rfl) : A_.tmps[13]?.getD undef = .func (.func 71) #[] #[])
      refine Rn.val fun K_ hK_ => ?_
      go_simp
      exact hK_.out _ (Ext.refl _)
    refine RnL.cons (fun g8 A_ W_ hs_ => ?_) ?_
    · have q11_ := (hs_.old 11 (by kernel_rfl) : A_.tmps[11]?.getD undef = .pointer (some ⟨i7, 0, none⟩))
      refine Rn.val fun K_ hK_ => ?_
      go_simp
      exact hK_.out _ (Ext.refl _)
    refine RnL.cons (fun g8 A_ W_ hs_ => ?_) ?_
    · have q50_ := hs_.val 11 rfl rfl rfl
      have cB7_2 := ((HB7_8.out.drew.ext hs_.1)).cell 2 rfl
      refine Rn.val fun K_ hK_ => ?_
      go_simp
      exact hK_.out _ (Ext.refl _)
    refine RnL.cons (fun g8 A_ W_ hs_ => ?_) ?_
    · have q11_ := (hs_.old 11 (by kernel_rfl) : A_.tmps[11]?.getD undef = .pointer (some ⟨i7, 0, none⟩))
      refine Rn.val fun K_ hK_ => ?_
      go_simp
      exact hK_.out _ (Ext.refl _)
    refine RnL.cons (fun g8 A_ W_ hs_ => ?_) ?_
    · have q52_ := hs_.val 13 rfl rfl rfl
      have cB7_0 := ((HB7_8.out.drew.ext hs_.1)).cell 0 rfl
      refine Rn.val fun K_ hK_ => ?_
      go_simp
      exact hK_.out _ (Ext.refl _)
    refine RnL.cons (fun g8 A_ W_ hs_ => ?_) ?_
    · have q12_ := (hs_.old 12 (by kernel_rfl) : A_.tmps[12]?.getD undef = .pointer (some ⟨i8, 0, none⟩))
      refine Rn.val fun K_ hK_ => ?_
      go_simp
      exact hK_.out _ (Ext.refl _)
    refine RnL.cons (fun g8 A_ W_ hs_ => ?_) ?_
    · have q54_ := hs_.val 15 rfl rfl rfl
      have cB8_2 := ((HB8_8.out.drew.ext hs_.1)).cell 2 rfl
      refine Rn.val fun K_ hK_ => ?_
      go_simp
      exact hK_.out _ (Ext.refl _)
    refine RnL.cons (fun g8 A_ W_ hs_ => ?_) ?_
    · have q12_ := (hs_.old 12 (by kernel_rfl) : A_.tmps[12]?.getD undef = .pointer (some ⟨i8, 0, none⟩))
      refine Rn.val fun K_ hK_ => ?_
      go_simp
      exact hK_.out _ (Ext.refl _)
    refine RnL.cons (fun g8 A_ W_ hs_ => ?_) ?_
    · have q56_ := hs_.val 17 rfl rfl rfl
      have cB8_0 := ((HB8_8.out.drew.ext hs_.1)).cell 0 rfl
      refine Rn.val fun K_ hK_ => ?_
      go_simp
      exact hK_.out _ (Ext.refl _)
    refine RnL.cons (fun g8 A_ W_ hs_ => ?_) ?_
    · have q49_ := hs_.val 10 rfl rfl rfl
      have q51_ := hs_.val 12 rfl rfl rfl
      have q53_ := hs_.val 14 rfl rfl rfl
      have q55_ := hs_.val 16 rfl rfl rfl
      have q57_ := hs_.val 18 rfl rfl rfl
      refine Rn.val fun K_ hK_ => ?_
      go_simp
      refine (k15_20 _ (HG.out.ext (HX8.out.drew.trans hs_.1))).mono ?_; rintro e W9_ ⟨rfl, e9_⟩; exact hK_.out _ e9_
    refine RnL.cons (fun g8 A_ W_ hs_ => ?_) ?_
    · have q13_ := (hs_.old 13 (by kernel_rfl) : A_.tmps[13]?.getD undef = .func (.func 71) #[] #[])
      refine Rn.val fun K_ hK_ => ?_
      go_simp
      exact hK_.out _ (Ext.refl _)
    refine RnL.cons (fun g8 A_ W_ hs_ => ?_) ?_
    · have q11_ := (hs_.old 11 (by kernel_rfl) : A_.tmps[11]?.getD undef = .pointer (some ⟨i7, 0, none⟩))
      refine Rn.val fun K_ hK_ => ?_
      go_simp
      exact hK_.out _ (Ext.refl _)
    refine RnL.cons (fun g8 A_ W_ hs_ => ?_) ?_
    · have q60_ := hs_.val 21 rfl rfl rfl
      have cB7_0 := ((HB7_8.out.drew.ext hs_.1)).cell 0 rfl
      refine Rn.val fun K_ hK_ => ?_
      go_simp
      exact hK_.out _ (Ext.refl _)
    refine RnL.cons (fun g8 A_ W_ hs_ => ?_) ?_
    · have q11_ := (hs_.old 11 (by kernel_rfl) : A_.tmps[11]?.getD undef = .pointer (some ⟨i7, 0, none⟩))
      refine Rn.val fun K_ hK_ => ?_
      go_simp
      exact hK_.out _ (Ext.refl _)
    refine RnL.cons (fun g8 A_ W_ hs_ => ?_) ?_
    · have q62_ := hs_.val 23 rfl rfl rfl
      have cB7_1 := ((HB7_8.out.drew.ext hs_.1)).cell 1 rfl
      refine Rn.val fun K_ hK_ => ?_
      go_simp
      exact hK_.out _ (Ext.refl _)
    refine RnL.cons (fun g8 A_ W_ hs_ => ?_) ?_
    · have q12_ := (hs_.old 12 (by kernel_rfl) : A_.tmps[12]?.getD undef = .pointer (some ⟨i8, 0, none⟩))
      refine Rn.val fun K_ hK_ => ?_
      go_simp
      exact hK_.out _ (Ext.refl _)
    refine RnL.cons (fun g8 A_ W_ hs_ => ?_) ?_
    · have q64_ := hs_.val 25 rfl rfl rfl
      have cB8_0 := ((HB8_8.out.drew.ext hs_.1)).cell 0 rfl
      refine Rn.val fun K_ hK_ => ?_
      go_simp
      exact hK_.out _ (Ext.refl _)
    refine RnL.cons (fun g8 A_ W_ hs_ => ?_) ?_
    · have q12_ := (hs_.old 12 (by kernel_rfl) : A_.tmps[12]?.getD undef = .pointer (some ⟨i8, 0, none⟩))
      refine Rn.val fun K_ hK_ => ?_
      go_simp
      exact hK_.out _ (Ext.refl _)
    refine RnL.cons (fun g8 A_ W_ hs_ => ?_) ?_
    · have q66_ := hs_.val 27 rfl rfl rfl
      have cB8_1 := ((HB8_8.out.drew.ext hs_.1)).cell 1 rfl
      refine Rn.val fun K_ hK_ => ?_
      go_simp
      exact hK_.out _ (Ext.refl _)
    refine RnL.cons (fun g8 A_ W_ hs_ => ?_) ?_
    · have q59_ := hs_.val 20 rfl rfl rfl
      have q61_ := hs_.val 22 rfl rfl rfl
      have q63_ := hs_.val 24 rfl rfl rfl
      have q65_ := hs_.val 26 rfl rfl rfl
      have q67_ := hs_.val 28 rfl rfl rfl
      refine Rn.val fun K_ hK_ => ?_
      go_simp
      refine (k15_21 _ (HG.out.ext (HX8.out.drew.trans hs_.1))).mono ?_; rintro e W9_ ⟨rfl, e9_⟩; exact hK_.out _ e9_
    refine RnL.cons (fun g8 A_ W_ hs_ => ?_) ?_
    · have q48_ := hs_.val 9 rfl rfl rfl
      have q58_ := hs_.val 19 rfl rfl rfl
      have q68_ := hs_.val 29 rfl rfl rfl
      refine Rn.val fun K_ hK_ => ?_
      go_simp
      exact hK_.out _ (Ext.refl _)
    refine RnL.cons (fun g8 A_ W_ hs_ => ?_) ?_
    · refine Rn.mem fun K_ hK_ => ?_
      go_simp
      exact hK_.out
    refine RnL.cons (fun g8 A_ W_ hs_ => ?_) ?_
    · have q14_ := (hs_.mem 31 rfl rfl rfl).1
      have q69_ := hs_.val 30 rfl rfl rfl
      refine Rn.put (z := #[.string ⟨#[]⟩, .string ⟨#[]⟩, .string ⟨#[]⟩]) (t := 37) rfl fun hB K_ hK_ => ?_
      have c_0 := hB.cell 0 rfl; have f_0 := hB.free 0
      have c_1 := hB.cell 1 rfl; have f_1 := hB.free 1
      have c_2 := hB.cell 2 rfl; have f_2 := hB.free 2
      have HB := Lib.hid hB; clear hB
      go_simp
      exact hK_.out _ ((((Only.refl _ _).set 0 _).set 1 _).set 2 _) (((HB.out.set 0 _).set 1 _).set 2 _)
    exact RnL.nil
  simp only [fs, Kd.value, puts, Act.put, List.setIfInBounds_toArray, List.set_cons_zero, List.set_cons_succ, Nat.reduceAdd]
  have HX9 : Hid (Ext w w9) := Lib.hid (HX8.out.drew.trans hx_)
  have HB0_9 := Lib.hid (HB0_8.out.drew.ext hx_)
  have HB3_9 := Lib.hid (HB3_8.out.drew.ext hx_)
  have HB9_9 : Hid (Blk w9 (g8 31) #[.string ⟨#[45, 49]⟩, .string ⟨#[45, 50]⟩, .string ⟨#[49]⟩] 37) := Lib.hid (hm_ 31 _ _ _ _ rfl).2; have HGEB9 : Hid (w.heap.size ≤ g8 31) := Lib.hid (Nat.le_trans HX8.out.size (hm_ 31 _ _ _ _ rfl).1)
  have HNEB0B9 : Hid (w.heap.size ≠ g8 31) := Lib.hid (Nat.ne_of_lt (Nat.lt_of_lt_of_le HB0_8.out.lt (hm_ 31 _ _ _ _ rfl).1))
  have HNEB3B9 : Hid (w.heap.size + 1 + 1 + 1 ≠ g8 31) := Lib.hid (Nat.ne_of_lt (Nat.lt_of_lt_of_le HB3_8.out.lt (hm_ 31 _ _ _ _ rfl).1))
  clear hx_ hm_ hne_
  generalize g8 31 = i9 at *
  clear g8
  go_wp2_with fail
  refine wp_name (fun W => Ext w W ∧ Blk W (w.heap.size) #[.string ⟨#[48]⟩, .string ⟨#[48]⟩, .string ⟨#[48]⟩] 37 ∧ Blk W (w.heap.size + 1 + 1 + 1) #[.string ⟨#[]⟩, .string ⟨#[]⟩, .string ⟨#[]⟩, .string ⟨#[]⟩] 39 ∧ Blk W (i9) #[.string ⟨#[45, 49]⟩, .string ⟨#[45, 50]⟩, .string ⟨#[49]⟩] 37) ⟨HX9.out, HB0_9.out, HB3_9.out, HB9_9.out⟩ ?_
  rintro w10 ⟨e10, bB0_10, bB3_10, bB9_10⟩
  have HX10 := Lib.hid e10; have HB0_10 := Lib.hid bB0_10; have HB3_10 := Lib.hid bB3_10; have HB9_10 := Lib.hid bB9_10
  clear e10 bB0_10 bB3_10 bB9_10
  refine region_lin [.val (.agg #[.string ⟨#[45, 49]⟩, .string ⟨#[45, 50]⟩, .string ⟨#[49]⟩]), .val (.agg #[.string ⟨#[48]⟩, .string ⟨#[48]⟩, .string ⟨#[48]⟩]), .val (.bool false), .val (.bool false)] (by kernel_rfl) (by kernel_rfl) (by kernel_rfl) ?_ (fun g10 w11 hx_ hm_ hne_ => ?_)
  · skip
    refine RnL.cons (fun g10 A_ W_ hs_ => ?_) ?_
    · have q14_ := (hs_.old 14 (by kernel_rfl) : A_.tmps[14]?.getD undef = .pointer (some ⟨i9, 0, none⟩))
      have cB9_0 := ((HB9_10.out.drew.ext hs_.1)).cell 0 rfl
      have cB9_1 := ((HB9_10.out.drew.ext hs_.1)).cell 1 rfl
      have cB9_2 := ((HB9_10.out.drew.ext hs_.1)).cell 2 rfl
      refine Rn.val fun K_ hK_ => ?_
      go_simp
      exact hK_.out _ (Ext.refl _)
    refine RnL.cons (fun g10 A_ W_ hs_ => ?_) ?_
    · refine Rn.val fun K_ hK_ => ?_
      go_simp
      refine (vof0 _ (HG.out.ext (HX10.out.drew.trans hs_.1))).mono ?_; rintro e W9_ ⟨rfl, e9_⟩; exact hK_.out _ e9_
    refine RnL.cons (fun g10 A_ W_ hs_ => ?_) ?_
    · have q71_ := hs_.val 0 rfl rfl rfl
      have q72_ := hs_.val 1 rfl rfl rfl
      refine Rn.val fun K_ hK_ => ?_
      go_simp
      exact hK_.out _ (Ext.refl _)
    refine RnL.cons (fun g10 A_ W_ hs_ => ?_) ?_
    · have q73_ := hs_.val 2 rfl rfl rfl
      refine Rn.val fun K_ hK_ => ?_
      go_simp
      exact hK_.out _ (Ext.refl _)
    exact RnL.nil
  simp only [fs, Kd.value, puts, Act.put, List.setIfInBounds_toArray, List.set_cons_zero, List.set_cons_succ]
  have HX11 : Hid (Ext w w11) := Lib.hid (HX10.out.drew.trans hx_)
  have HB0_11 := Lib.hid (HB0_10.out.drew.ext hx_)
  have HB3_11 := Lib.hid (HB3_10.out.drew.ext hx_)
  have HB9_11 := Lib.hid (HB9_10.out.drew.ext hx_)
  clear hx_ hm_ hne_
  have c9_2 := HB9_11.out.cell 2 rfl
  go_wp2_with fail
  refine (k15_6 _ (HG.out.ext HX11.out)).mono ?_; rintro e _ ⟨rfl, rfl⟩
  clear c9_2
  go_wp2_with fail
  refine wp_name (fun W => Ext w W ∧ Blk W (w.heap.size) #[.string ⟨#[48]⟩, .string ⟨#[48]⟩, .string ⟨#[48]⟩] 37 ∧ Blk W (w.heap.size + 1 + 1 + 1) #[.string ⟨#[]⟩, .string ⟨#[]⟩, .string ⟨#[]⟩, .string ⟨#[]⟩] 39 ∧ Blk W (i9) #[.string ⟨#[45, 49]⟩, .string ⟨#[45, 50]⟩, .string ⟨#[49]⟩] 37) ⟨HX11.out, HB0_11.out, HB3_11.out, HB9_11.out⟩ ?_
  rintro w12 ⟨e12, bB0_12, bB3_12, bB9_12⟩
  have HX12 := Lib.hid e12; have HB0_12 := Lib.hid bB0_12; have HB3_12 := Lib.hid bB3_12; have HB9_12 := Lib.hid bB9_12
  clear e12 bB0_12 bB3_12 bB9_12
  refine region_lin_s (X := w) [⟨i9, #[.string ⟨#[45, 49]⟩, .string ⟨#[45, 50]⟩, .string ⟨#[49]⟩], #[.string ⟨#[45, 49]⟩, .string ⟨#[45, 50]⟩, .string ⟨#[49]⟩], 37⟩] [.val (.pointer (some ⟨i9, 0, none⟩)), .val (.string ⟨#[45, 49]⟩), .val (.pointer (some ⟨i9, 2, none⟩)), .val (.string ⟨#[49]⟩), .val (.string ⟨#[45, 49]⟩), .val (.pointer (some ⟨i9, 1, none⟩)), .val (.string ⟨#[45, 50]⟩), .val (.pointer (some ⟨i9, 2, none⟩)), .val (.string ⟨#[49]⟩), .val (.string ⟨#[45, 50]⟩), .val (.agg #[.string ⟨#[45, 49]⟩, .string ⟨#[45, 50]⟩, .string ⟨#[49]⟩]), .val (.tuple #[.agg #[.string ⟨#[45, 49]⟩, .string ⟨#[45, 50]⟩, .string ⟨#[49]⟩], .int .i64 0]), .val (.tuple #[.agg #[.string ⟨#[45, 49]⟩, .string ⟨#[45, 50]⟩, .string ⟨#[49]⟩], .int .i64 0]), .val (.agg #[.string ⟨#[45, 49]⟩, .string ⟨#[45, 50]⟩, .string ⟨#[49]⟩]), .val (.int .i64 0), .st 0, .val (.int .i64 0)] (by kernel_rfl) (by kernel_rfl) (by kernel_rfl) HX12.out.drew (List.forall_mem_cons.2 ⟨⟨HGEB9.out, HB9_12.out.drew⟩, (fun _ h => by cases h)⟩) dis1 ?_ (fun g12 w13 hx_ hk_ hb_ hm_ hne_ => ?_)
  · skip
    refine RnL.cons (fun g12 A_ W_ hs_ => ?_) ?_
    · have q14_ := (hs_.old 14 (by kernel_rfl) : A_.tmps[14]?.getD undef = .pointer (some ⟨i9, 0, none⟩))
      refine Rn.val fun K_ hK_ => ?_
      go_simp
      exact hK_.out _ (Ext.refl _)
    refine RnL.cons (fun g12 A_ W_ hs_ => ?_) ?_
    · have q96_ := hs_.val 0 rfl rfl rfl
      have cB9_0 := ((hs_.ob 0 rfl (by kernel_rfl))).cell 0 rfl
      refine Rn.val fun K_ hK_ => ?_
      go_simp
      exact hK_.out _ (Ext.refl _)
    refine RnL.cons (fun g12 A_ W_ hs_ => ?_) ?_
    · have q14_ := (hs_.old 14 (by kernel_rfl) : A_.tmps[14]?.getD undef = .pointer (some ⟨i9, 0, none⟩))
      refine Rn.val fun K_ hK_ => ?_
      go_simp
      exact hK_.out _ (Ext.refl _)
    refine RnL.cons (fun g12 A_ W_ hs_ => ?_) ?_
    · have q98_ := hs_.val 2 rfl rfl rfl
      have cB9_2 := ((hs_.ob 0 rfl (by kernel_rfl))).cell 2 rfl
      refine Rn.val fun K_ hK_ => ?_
      go_simp
      exact hK_.out _ (Ext.refl _)
    refine RnL.cons (fun g12 A_ W_ hs_ => ?_) ?_
    · have q97_ := hs_.val 1 rfl rfl rfl
      have q99_ := hs_.val 3 rfl rfl rfl
      refine Rn.val fun K_ hK_ => ?_
      go_simp
      refine (k15_22 _ (HG.out.ext hs_.1)).mono ?_; rintro e W9_ ⟨rfl, e9_⟩; exact hK_.out _ e9_
    refine RnL.cons (fun g12 A_ W_ hs_ => ?_) ?_
    · have q14_ := (hs_.old 14 (by kernel_rfl) : A_.tmps[14]?.getD undef = .pointer (some ⟨i9, 0, none⟩))
      refine Rn.val fun K_ hK_ => ?_
      go_simp
      exact hK_.out _ (Ext.refl _)
    refine RnL.cons (fun g12 A_ W_ hs_ => ?_) ?_
    · have q101_ := hs_.val 5 rfl rfl rfl
      have cB9_1 := ((hs_.ob 0 rfl (by kernel_rfl))).cell 1 rfl
      refine Rn.val fun K_ hK_ => ?_
      go_simp
      exact hK_.out _ (Ext.refl _)
    refine RnL.cons (fun g12 A_ W_ hs_ => ?_) ?_
    · have q14_ := (hs_.old 14 (by kernel_rfl) : A_.tmps[14]?.getD undef = .pointer (some ⟨i9, 0, none⟩))
      refine Rn.val fun K_ hK_ => ?_
      go_simp
      exact hK_.out _ (Ext.refl _)
    refine RnL.cons (fun g12 A_ W_ hs_ => ?_) ?_
    · have q103_ := hs_.val 7 rfl rfl rfl
      have cB9_2 := ((hs_.ob 0 rfl (by kernel_rfl))).cell 2 rfl
      refine Rn.val fun K_ hK_ => ?_
      go_simp
      exact hK_.out _ (Ext.refl _)
    refine RnL.cons (fun g12 A_ W_ hs_ => ?_) ?_
    · have q102_ := hs_.val 6 rfl rfl rfl
      have q104_ := hs_.val 8 rfl rfl rfl
      refine Rn.val fun K_ hK_ => ?_
      go_simp
      refine (k15_23 _ (HG.out.ext hs_.1)).mono ?_; rintro e W9_ ⟨rfl, e9_⟩; exact hK_.out _ e9_
    refine RnL.cons (fun g12 A_ W_ hs_ => ?_) ?_
    · have q100_ := hs_.val 4 rfl rfl rfl
      have q105_ := hs_.val 9 rfl rfl rfl
      refine Rn.val fun K_ hK_ => ?_
      go_simp
      exact hK_.out _ (Ext.refl _)
    refine RnL.cons (fun g12 A_ W_ hs_ => ?_) ?_
    · have q106_ := hs_.val 10 rfl rfl rfl
      refine Rn.val fun K_ hK_ => ?_
      go_simp
      refine (k15_24 _ (HG.out.ext hs_.1)).mono ?_; rintro e W9_ ⟨rfl, e9_⟩; exact hK_.out _ e9_
    refine RnL.cons (fun g12 A_ W_ hs_ => ?_) ?_
    · have q107_ := hs_.val 11 rfl rfl rfl
      refine Rn.val fun K_ hK_ => ?_
      go_simp
      exact hK_.out _ (Ext.refl _)
    refine RnL.cons (fun g12 A_ W_ hs_ => ?_) ?_
    · have q95_ := hs_.val 12 rfl rfl rfl
      refine Rn.val fun K_ hK_ => ?_
      go_simp
      exact hK_.out _ (Ext.refl _)
    refine RnL.cons (fun g12 A_ W_ hs_ => ?_) ?_
    · have q95_ := hs_.val 12 rfl rfl rfl
      refine Rn.val fun K_ hK_ => ?_
      go_simp
      exact hK_.out _ (Ext.refl _)
    refine RnL.cons (fun g12 A_ W_ hs_ => ?_) ?_
    · have q14_ := (hs_.old 14 (by kernel_rfl) : A_.tmps[14]?.getD undef = .pointer (some ⟨i9, 0, none⟩))
      have q108_ := hs_.val 13 rfl rfl rfl
      refine Rn.st (n := 0) rfl fun hB0 K_ hK_ => ?_
      have hB : Blk W_ (i9) #[.string ⟨#[45, 49]⟩, .string ⟨#[45, 50]⟩, .string ⟨#[49]⟩] 37 := hB0; clear hB0
      have c_0 := hB.cell 0 rfl; have f_0 := hB.free 0
      have c_1 := hB.cell 1 rfl; have f_1 := hB.free 1
      have c_2 := hB.cell 2 rfl; have f_2 := hB.free 2
      have HB := Lib.hid hB; clear hB
      go_simp
      exact hK_.out _ ((((Only.refl _ _).set 0 _).set 1 _).set 2 _) (((HB.out.set 0 _).set 1 _).set 2 _)
    refine RnL.cons (fun g12 A_ W_ hs_ => ?_) ?_
    · have q109_ := hs_.val 14 rfl rfl rfl
      refine Rn.val fun K_ hK_ => ?_
      go_simp
      exact hK_.out _ (Ext.refl _)
    exact RnL.nil
  simp only [fs, Kd.value, puts, Act.put, List.setIfInBounds_toArray, List.set_cons_zero, List.set_cons_succ]
  have HX13 : Hid (Ext w w13) := Lib.hid hx_
  have HB0_13 : Hid (Blk w13 (w.heap.size) #[.string ⟨#[48]⟩, .string ⟨#[48]⟩, .string ⟨#[48]⟩] 37) := Lib.hid (hk_ _ _ _ (fm2 (show i9 ≠ w.heap.size from fun h => HNEB0B9.out h.symm) fm0) HB0_12.out.drew)
  have HB3_13 : Hid (Blk w13 (w.heap.size + 1 + 1 + 1) #[.string ⟨#[]⟩, .string ⟨#[]⟩, .string ⟨#[]⟩, .string ⟨#[]⟩] 39) := Lib.hid (hk_ _ _ _ (fm2 (show i9 ≠ w.heap.size + 1 + 1 + 1 from fun h => HNEB3B9.out h.symm) fm0) HB3_12.out.drew)
  have HB9_13 : Hid (Blk w13 (i9) #[.string ⟨#[45, 49]⟩, .string ⟨#[45, 50]⟩, .string ⟨#[49]⟩] 37) := Lib.hid (hb_ 0 _ rfl)
  clear hx_ hm_ hne_ hk_ hb_
  go_wp2_with fail
  refine wp_name (fun W => Ext w W ∧ Blk W (w.heap.size) #[.string ⟨#[48]⟩, .string ⟨#[48]⟩, .string ⟨#[48]⟩] 37 ∧ Blk W (w.heap.size + 1 + 1 + 1) #[.string ⟨#[]⟩, .string ⟨#[]⟩, .string ⟨#[]⟩, .string ⟨#[]⟩] 39 ∧ Blk W (i9) #[.string ⟨#[45, 49]⟩, .string ⟨#[45, 50]⟩, .string ⟨#[49]⟩] 37) ⟨HX13.out, HB0_13.out, HB3_13.out, HB9_13.out⟩ ?_
  rintro w14 ⟨e14, bB0_14, bB3_14, bB9_14⟩
  have HX14 := Lib.hid e14; have HB0_14 := Lib.hid bB0_14; have HB3_14 := Lib.hid bB3_14; have HB9_14 := Lib.hid bB9_14
  clear e14 bB0_14 bB3_14 bB9_14
  refine region_lin [.val (.pointer (some ⟨i9, 0, none⟩)), .val (.string ⟨#[45, 49]⟩), .val (.pointer (some ⟨w.heap.size, 0, none⟩)), .val (.string ⟨#[48]⟩), .val (.string ⟨#[48]⟩), .val (.pointer (some ⟨i9, 1, none⟩)), .val (.string ⟨#[45, 50]⟩), .val (.pointer (some ⟨w.heap.size, 1, none⟩)), .val (.string ⟨#[48]⟩), .val (.string ⟨#[48]⟩), .val (.pointer (some ⟨i9, 2, none⟩)), .val (.string ⟨#[49]⟩), .val (.pointer (some ⟨w.heap.size, 2, none⟩)), .val (.string ⟨#[48]⟩), .val (.string ⟨#[48]⟩), .mem (fun b_ => .slice (some ⟨b_, 0, none⟩) 3 3) #[.string ⟨#[48]⟩, .string ⟨#[48]⟩, .string ⟨#[48]⟩] 22 Option.none, .val (.string ⟨#[48]⟩), .val (.string ⟨#[48]⟩)] (by kernel_rfl) (by kernel_rfl) (by kernel_rfl) ?_ (fun g14 w15 hx_ hm_ hne_ => ?_)
  · skip
    refine RnL.cons (fun g14 A_ W_ hs_ => ?_) ?_
    · have q14_ := (hs_.old 14 (by kernel_rfl) : A_.tmps[14]?.getD undef = .pointer (some ⟨i9, 0, none⟩))
      refine Rn.val fun K_ hK_ => ?_
      go_simp
      exact hK_.out _ (Ext.refl _)
    refine RnL.cons (fun g14 A_ W_ hs_ => ?_) ?_
    · have q113_ := hs_.val 0 rfl rfl rfl
      have cB9_0 := ((HB9_14.out.drew.ext hs_.1)).cell 0 rfl
      refine Rn.val fun K_ hK_ => ?_
      go_simp
      exact hK_.out _ (Ext.refl _)
    refine RnL.cons (fun g14 A_ W_ hs_ => ?_) ?_
    · have q3_ := (hs_.old 3 (by kernel_rfl) : A_.tmps[3]?.getD undef = .pointer (some ⟨w.heap.size, 0, none⟩))
      refine Rn.val fun K_ hK_ => ?_
      go_simp
      exact hK_.out _ (Ext.refl _)
    refine RnL.cons (fun g14 A_ W_ hs_ => ?_) ?_
    · have q115_ := hs_.val 2 rfl rfl rfl
      have cB0_0 := ((HB0_14.out.drew.ext hs_.1)).cell 0 rfl
      refine Rn.val fun K_ hK_ => ?_
      go_simp
      exact hK_.out _ (Ext.refl _)
    refine RnL.cons (fun g14 A_ W_ hs_ => ?_) ?_
    · have q114_ := hs_.val 1 rfl rfl rfl
      have q116_ := hs_.val 3 rfl rfl rfl
      refine Rn.val fun K_ hK_ => ?_
      go_simp
      refine (k15_25 _ (HG.out.ext (HX14.out.drew.trans hs_.1))).mono ?_; rintro e W9_ ⟨rfl, e9_⟩; exact hK_.out _ e9_
    refine RnL.cons (fun g14 A_ W_ hs_ => ?_) ?_
    · have q14_ := (hs_.old 14 (by kernel_rfl) : A_.tmps[14]?.getD undef = .pointer (some ⟨i9, 0, none⟩))
      refine Rn.val fun K_ hK_ => ?_
      go_simp
      exact hK_.out _ (Ext.refl _)
    refine RnL.cons (fun g14 A_ W_ hs_ => ?_) ?_
    · have q118_ := hs_.val 5 rfl rfl rfl
      have cB9_1 := ((HB9_14.out.drew.ext hs_.1)).cell 1 rfl
      refine Rn.val fun K_ hK_ => ?_
      go_simp
      exact hK_.out _ (Ext.refl _)
    refine RnL.cons (fun g14 A_ W_ hs_ => ?_) ?_
    · have q3_ := (hs_.old 3 (by kernel_rfl) : A_.tmps[3]?.getD undef = .pointer (some ⟨w.heap.size, 0, none⟩))
      refine Rn.val fun K_ hK_ => ?_
      go_simp
      exact hK_.out _ (Ext.refl _)
    refine RnL.cons (fun g14 A_ W_ hs_ => ?_) ?_
    · have q120_ := hs_.val 7 rfl rfl rfl
      have cB0_1 := ((HB0_14.out.drew.ext hs_.1)).cell 1 rfl
      refine Rn.val fun K_ hK_ => ?_
      go_simp
      exact hK_.out _ (Ext.refl _)
    refine RnL.cons (fun g14 A_ W_ hs_ => ?_) ?_
    · have q119_ := hs_.val 6 rfl rfl rfl
      have q121_ := hs_.val 8 rfl rfl rfl
      refine Rn.val fun K_ hK_ => ?_
      go_simp
      refine (k15_26 _ (HG.out.ext (HX14.out.drew.trans hs_.1))).mono ?_; rintro e W9_ ⟨rfl, e9_⟩; exact hK_.out _ e9_
    refine RnL.cons (fun g14 A_ W_ hs_ => ?_) ?_
    · have q14_ := (hs_.old 14 (by kernel_rfl) : A_.tmps[14]?.getD undef = .pointer (some ⟨i9, 0, none⟩))
      refine Rn.val fun K_ hK_ => ?_
      go_simp
      exact hK_.out _ (Ext.refl _)
    refine RnL.cons (fun g14 A_ W_ hs_ => ?_) ?_
    · have q123_ := hs_.val 10 rfl rfl rfl
      have cB9_2 := ((HB9_14.out.drew.ext hs_.1)).cell 2 rfl
      refine Rn.val fun K_ hK_ => ?_
      go_simp
      exact hK_.out _ (Ext.refl _)
    refine RnL.cons (fun g14 A_ W_ hs_ => ?_) ?_
    · have q3_ := (hs_.old 3 (by kernel_rfl) : A_.tmps[3]?.getD undef = .pointer (some ⟨w.heap.size, 0, none⟩))
      refine Rn.val fun K_ hK_ => ?_
      go_simp
      exact hK_.out _ (Ext.refl _)
    refine RnL.cons (fun g14 A_ W_ hs_ => ?_) ?_
    · have q125_ := hs_.val 12 rfl rfl rfl
      have cB0_2 := ((HB0_14.out.drew.ext hs_.1)).cell 2 rfl
      refine Rn.val fun K_ hK_ => ?_
      go_simp
      exact hK_.out _ (Ext.refl _)
    refine RnL.cons (fun g14 A_ W_ hs_ => ?_) ?_
    · have q124_ := hs_.val 11 rfl rfl rfl
      have q126_ := hs_.val 13 rfl rfl rfl
      refine Rn.val fun K_ hK_ => ?_
      go_simp
      refine (k15_27 _ (HG.out.ext (HX14.out.drew.trans hs_.1))).mono ?_; rintro e W9_ ⟨rfl, e9_⟩; exact hK_.out _ e9_
    refine RnL.cons (fun g14 A_ W_ hs_ => ?_) ?_
    · have q117_ := hs_.val 4 rfl rfl rfl
      have q122_ := hs_.val 9 rfl rfl rfl
      have q127_ := hs_.val 14 rfl rfl rfl
      refine Rn.mem fun K_ hK_ => ?_
      go_simp
      exact hK_.out
    refine RnL.cons (fun g14 A_ W_ hs_ => ?_) ?_
    · have q128_ := (hs_.mem 15 rfl rfl rfl).1
      refine Rn.val fun K_ hK_ => ?_
      go_simp
      refine (k15_28 _ (HG.out.ext (HX14.out.drew.trans hs_.1)) (g14 15) _ ((hs_.mem 15 rfl rfl rfl).2.2 rfl)).mono ?_; rintro e W9_ ⟨rfl, e9_⟩; exact hK_.out _ e9_
    refine RnL.cons (fun g14 A_ W_ hs_ => ?_) ?_
    · have q129_ := hs_.val 16 rfl rfl rfl
      refine Rn.val fun K_ hK_ => ?_
      go_simp
      exact hK_.out _ (Ext.refl _)
    exact RnL.nil
  simp only [fs, Kd.value, puts, Act.put, List.setIfInBounds_toArray, List.set_cons_zero, List.set_cons_succ, Nat.reduceAdd]
  have HX15 : Hid (Ext w w15) := Lib.hid (HX14.out.drew.trans hx_)
  have HB3_15 := Lib.hid (HB3_14.out.drew.ext hx_)
  have HB9_15 := Lib.hid (HB9_14.out.drew.ext hx_)
  have HB10_15 : Hid (Blk w15 (g14 15) #[.string ⟨#[48]⟩, .string ⟨#[48]⟩, .string ⟨#[48]⟩] 22) := Lib.hid (hm_ 15 _ _ _ _ rfl).2; have HGEB10 : Hid (w.heap.size ≤ g14 15) := Lib.hid (Nat.le_trans HX14.out.size (hm_ 15 _ _ _ _ rfl).1)
  have HNEB3B10 : Hid (w.heap.size + 1 + 1 + 1 ≠ g14 15) := Lib.hid (Nat.ne_of_lt (Nat.lt_of_lt_of_le HB3_14.out.lt (hm_ 15 _ _ _ _ rfl).1))
  have HNEB9B10 : Hid (i9 ≠ g14 15) := Lib.hid (Nat.ne_of_lt (Nat.lt_of_lt_of_le HB9_14.out.lt (hm_ 15 _ _ _ _ rfl).1))
  clear hx_ hm_ hne_
  generalize g14 15 = i10 at *
  clear g14
  go_wp2_with fail
  refine (k15_29 _ (HG.out.ext HX15.out)).mono ?_; rintro e w16 ⟨rfl, e16⟩
  have HX16 : Hid (Ext w w16) := Lib.hid (HX15.out.trans e16)
  have HB3_16 := Lib.hid (Blk.ext HB3_15.out e16)
  have HB9_16 := Lib.hid (Blk.ext HB9_15.out e16)
  clear e16
  have c9_0 := HB9_16.out.cell 0 rfl
  have c9_1 := HB9_16.out.cell 1 rfl
  have c9_2 := HB9_16.out.cell 2 rfl
  have c3_0 := HB3_16.out.cell 0 rfl
  have f3_0 := HB3_16.out.free 0
  have c3_1 := HB3_16.out.cell 1 rfl
  have f3_1 := HB3_16.out.free 1
  have c3_2 := HB3_16.out.cell 2 rfl
  have f3_2 := HB3_16.out.free 2
  have c3_3 := HB3_16.out.cell 3 rfl
  have f3_3 := HB3_16.out.free 3
  go_wp2_with fail
  refine wp_name (fun W => Ext w W ∧ Blk W (w.heap.size + 1 + 1 + 1) #[.string ⟨#[45, 49]⟩, .string ⟨#[45, 50]⟩, .string ⟨#[49]⟩, .string ⟨#[48]⟩] 39) ⟨((((HX16.out.setCell (by have := HGEB3.out; first | omega | (simp only []; omega) | (simp; omega)) _).setCell (by have := HGEB3.out; first | omega | (simp only []; omega) | (simp; omega)) _).setCell (by have := HGEB3.out; first | omega | (simp only []; omega) | (simp; omega)) _).setCell (by have := HGEB3.out; first | omega | (simp only []; omega) | (simp; omega)) _), ((((HB3_16.out.set 0 (.string ⟨#[45, 49]⟩)).set 1 (.string ⟨#[45, 50]⟩)).set 2 (.string ⟨#[49]⟩)).set 3 (.string ⟨#[48]⟩))⟩ ?_
  rintro w17 ⟨e17, bB3_17⟩
  have HX17 := Lib.hid e17; have HB3_17 := Lib.hid bB3_17
  clear e17 bB3_17 c9_0 c9_1 c9_2 c3_0 f3_0 c3_1 f3_1 c3_2 f3_2 c3_3 f3_3
  have gB3_0 := HB3_17.out.cell 0 rfl
  have gB3_1 := HB3_17.out.cell 1 rfl
  have gB3_2 := HB3_17.out.cell 2 rfl
  have gB3_3 := HB3_17.out.cell 3 rfl
  refine bodyPost_ret (v := .tuple #[.agg #[.string ⟨#[45, 49]⟩, .string ⟨#[45, 50]⟩, .string ⟨#[49]⟩, .string ⟨#[48]⟩], .int .i64 0]) (by simp [results, Tryz.results43, go_sem, gB3_0, gB3_1, gB3_2, gB3_3]) rfl ⟨rfl, HX17.out⟩

set_option maxRecDepth 100000 in
set_option maxHeartbeats 4000000 in
theorem kapparent (w : World) (g : Gd w) : Calls Tryz.prog 30 #[.agg #[.string ⟨#[45, 49]⟩, .string ⟨#[45, 50]⟩, .string ⟨#[49]⟩], .agg #[.string ⟨#[49]⟩, .string ⟨#[49]⟩]] w (Ret w (.tuple #[.string ⟨#[45, 51]⟩, .int .i64 0])) := by
  have HG := Lib.hid g
  clear g
  go_enter Tryz.func30, Tryz.ntmps30
  go_wp2_with fail
  refine (k15_30 _ (HG.out.ext (((Ext.refl w).alloc _).alloc _))).mono ?_; rintro e w1 ⟨rfl, e1⟩
  have HX1 : Hid (Ext w w1) := Lib.hid ((((Ext.refl w).alloc _).alloc _).trans e1)
  have HB0_1 : Hid (Blk w1 (w.heap.size) #[.string ⟨#[45, 49]⟩, .string ⟨#[45, 50]⟩, .string ⟨#[49]⟩] 37) := Lib.hid (Blk.ext ((Blk.new' (w := _) (cs := #[.string ⟨#[45, 49]⟩, .string ⟨#[45, 50]⟩, .string ⟨#[49]⟩]) (t := 37) (by first | rfl | (simp only [World.size_alloc]; done) | (simp only [World.size_alloc]; omega) | simp)).alloc _) e1)
  have HB1_1 : Hid (Blk w1 (w.heap.size + 1) #[.string ⟨#[49]⟩, .string ⟨#[49]⟩] 24) := Lib.hid (Blk.ext (Blk.new' (w := _) (cs := #[.string ⟨#[49]⟩, .string ⟨#[49]⟩]) (t := 24) (by first | rfl | (simp only [World.size_alloc]; done) | (simp only [World.size_alloc]; omega) | simp)) e1)
  have HGEB0 : Hid (w.heap.size ≤ w.heap.size) := Lib.hid (by first | omega | (simp only []; omega) | (simp; omega))
  have HGEB1 : Hid (w.heap.size ≤ w.heap.size + 1) := Lib.hid (by first | omega | (simp only []; omega) | (simp; omega))
  clear e1
  have c1_0 := HB1_1.out.cell 0 rfl
  have c1_1 := HB1_1.out.cell 1 rfl
  go_wp2_with fail
  refine (k15_31 _ (HG.out.ext HX1.out)).mono ?_; rintro e w2 ⟨rfl, e2⟩
  have HX2 : Hid (Ext w w2) := Lib.hid (HX1.out.trans e2)
  have HB0_2 := Lib.hid (Blk.ext HB0_1.out e2)
  have HB1_2 := Lib.hid (Blk.ext HB1_1.out e2)
  clear e2 c1_0 c1_1
  have c0_2 := HB0_2.out.cell 2 rfl
  go_wp2_with fail
  refine wp_name (fun W => Ext w W ∧ Blk W (w.heap.size) #[.string ⟨#[45, 49]⟩, .string ⟨#[45, 50]⟩, .string ⟨#[49]⟩] 37 ∧ Blk W (w.heap.size + 1) #[.string ⟨#[49]⟩, .string ⟨#[49]⟩] 24) ⟨HX2.out, HB0_2.out, HB1_2.out⟩ ?_
  rintro w3 ⟨e3, bB0_3, bB1_3⟩
  have HX3 := Lib.hid e3; have HB0_3 := Lib.hid bB0_3; have HB1_3 := Lib.hid bB1_3
  clear e3 bB0_3 bB1_3 c0_2
  refine region_lin [.val (.pointer (some ⟨w.heap.size, 0, none⟩)), .val (.string ⟨#[45, 49]⟩), .val (.pointer (some ⟨w.heap.size + 1, 0, none⟩)), .val (.string ⟨#[49]⟩), .val (.string ⟨#[45, 49]⟩), .val (.pointer (some ⟨w.heap.size, 1, none⟩)), .val (.string ⟨#[45, 50]⟩), .val (.pointer (some ⟨w.heap.size + 1, 1, none⟩)), .val (.string ⟨#[49]⟩), .val (.string ⟨#[45, 50]⟩), .val (.string ⟨#[45, 51]⟩), .val (.pointer (some ⟨w.heap.size, 2, none⟩)), .val (.string ⟨#[49]⟩), .val (.string ⟨#[45, 51]⟩), .val (.tuple #[.string ⟨#[45, 51]⟩, .int .i64 0]), .val (.string ⟨#[45, 51]⟩), .val (.int .i64 0), .val (.string ⟨#[45, 51]⟩), .val (.int .i64 0)] (by kernel_rfl) (by kernel_rfl) (by kernel_rfl) ?_ (fun g3 w4 hx_ hm_ hne_ => ?_)
  · skip
    refine RnL.cons (fun g3 A_ W_ hs_ => ?_) ?_
    · have q2_ := (hs_.old 2 (by kernel_rfl) : A_.tmps[2]?.getD undef = .pointer (some ⟨w.heap.size, 0, none⟩))
      refine Rn.val fun K_ hK_ => ?_
      go_simp
      exact hK_.out _ (Ext.refl _)
    refine RnL.cons (fun g3 A_ W_ hs_ => ?_) ?_
    · have q21_ := hs_.val 0 rfl rfl rfl
      have cB0_0 := ((HB0_3.out.drew.ext hs_.1)).cell 0 rfl
      refine Rn.val fun K_ hK_ => ?_
      go_simp
      exact hK_.out _ (Ext.refl _)
    refine RnL.cons (fun g3 A_ W_ hs_ => ?_) ?_
    · have q3_ := (hs_.old 3 (by kernel_rfl) : A_.tmps[3]?.getD undef = .pointer (some ⟨w.heap.size + 1, 0, none⟩))
      refine Rn.val fun K_ hK_ => ?_
      go_simp
      exact hK_.out _ (Ext.refl _)
    refine RnL.cons (fun g3 A_ W_ hs_ => ?_) ?_
    · have q23_ := hs_.val 2 rfl rfl rfl
      have cB1_0 := ((HB1_3.out.drew.ext hs_.1)).cell 0 rfl
      refine Rn.val fun K_ hK_ => ?_
      go_simp
      exact hK_.out _ (Ext.refl _)
    refine RnL.cons (fun g3 A_ W_ hs_ => ?_) ?_
    · have q22_ := hs_.val 1 rfl rfl rfl
      have q24_ := hs_.val 3 rfl rfl rfl
      refine Rn.val fun K_ hK_ => ?_
      go_simp
      refine (k15_32 _ (HG.out.ext (HX3.out.drew.trans hs_.1))).mono ?_; rintro e W9_ ⟨rfl, e9_⟩; exact hK_.out _ e9_
    refine RnL.cons (fun g3 A_ W_ hs_ => ?_) ?_
    · have q2_ := (hs_.old 2 (by kernel_rfl) : A_.tmps[2]?.getD undef = .pointer (some ⟨w.heap.size, 0, none⟩))
      refine Rn.val fun K_ hK_ => ?_
      go_simp
      exact hK_.out _ (Ext.refl _)
    refine RnL.cons (fun g3 A_ W_ hs_ => ?_) ?_
    · have q26_ := hs_.val 5 rfl rfl rfl
      have cB0_1 := ((HB0_3.out.drew.ext hs_.1)).cell 1 rfl
      refine Rn.val fun K_ hK_ => ?_
      go_simp
      exact hK_.out _ (Ext.refl _)
    refine RnL.cons (fun g3 A_ W_ hs_ => ?_) ?_
    · have q3_ := (hs_.old 3 (by kernel_rfl) : A_.tmps[3]?.getD undef = .pointer (some ⟨w.heap.size + 1, 0, none⟩))
      refine Rn.val fun K_ hK_ => ?_
      go_simp
      exact hK_.out _ (Ext.refl _)
    refine RnL.cons (fun g3 A_ W_ hs_ => ?_) ?_
    · have q28_ := hs_.val 7 rfl rfl rfl
      have cB1_1 := ((HB1_3.out.drew.ext hs_.1)).cell 1 rfl
      refine Rn.val fun K_ hK_ => ?_
      go_simp
      exact hK_.out _ (Ext.refl _)
    refine RnL.cons (fun g3 A_ W_ hs_ => ?_) ?_
    · have q27_ := hs_.val 6 rfl rfl rfl
      have q29_ := hs_.val 8 rfl rfl rfl
      refine Rn.val fun K_ hK_ => ?_
      go_simp
      refine (k15_33 _ (HG.out.ext (HX3.out.drew.trans hs_.1))).mono ?_; rintro e W9_ ⟨rfl, e9_⟩; exact hK_.out _ e9_
    refine RnL.cons (fun g3 A_ W_ hs_ => ?_) ?_
    · have q25_ := hs_.val 4 rfl rfl rfl
      have q30_ := hs_.val 9 rfl rfl rfl
      refine Rn.val fun K_ hK_ => ?_
      go_simp
      refine (k15_34 _ (HG.out.ext (HX3.out.drew.trans hs_.1))).mono ?_; rintro e W9_ ⟨rfl, e9_⟩; exact hK_.out _ e9_
    refine RnL.cons (fun g3 A_ W_ hs_ => ?_) ?_
    · have q2_ := (hs_.old 2 (by kernel_rfl) : A_.tmps[2]?.getD undef = .pointer (some ⟨w.heap.size, 0, none⟩))
      refine Rn.val fun K_ hK_ => ?_
      go_simp
      exact hK_.out _ (Ext.refl _)
    refine RnL.cons (fun g3 A_ W_ hs_ => ?_) ?_
    · have q32_ := hs_.val 11 rfl rfl rfl
      have cB0_2 := ((HB0_3.out.drew.ext hs_.1)).cell 2 rfl
      refine Rn.val fun K_ hK_ => ?_
      go_simp
      exact hK_.out _ (Ext.refl _)
    refine RnL.cons (fun g3 A_ W_ hs_ => ?_) ?_
    · have q31_ := hs_.val 10 rfl rfl rfl
      have q33_ := hs_.val 12 rfl rfl rfl
      refine Rn.val fun K_ hK_ => ?_
      go_simp
      refine (k15_35 _ (HG.out.ext (HX3.out.drew.trans hs_.1))).mono ?_; rintro e W9_ ⟨rfl, e9_⟩; exact hK_.out _ e9_
    refine RnL.cons (fun g3 A_ W_ hs_ => ?_) ?_
    · have q34_ := hs_.val 13 rfl rfl rfl
      refine Rn.val fun K_ hK_ => ?_
      go_simp
      refine (k15_36 _ (HG.out.ext (HX3.out.drew.trans hs_.1))).mono ?_; rintro e W9_ ⟨rfl, e9_⟩; exact hK_.out _ e9_
    refine RnL.cons (fun g3 A_ W_ hs_ => ?_) ?_
    · have q35_ := hs_.val 14 rfl rfl rfl
      refine Rn.val fun K_ hK_ => ?_
      go_simp
      exact hK_.out _ (Ext.refl _)
    refine RnL.cons (fun g3 A_ W_ hs_ => ?_) ?_
    · have q35_ := hs_.val 14 rfl rfl rfl
      refine Rn.val fun K_ hK_ => ?_
      go_simp
      exact hK_.out _ (Ext.refl _)
    refine RnL.cons (fun g3 A_ W_ hs_ => ?_) ?_
    · have q36_ := hs_.val 15 rfl rfl rfl
      refine Rn.val fun K_ hK_ => ?_
      go_simp
      exact hK_.out _ (Ext.refl _)
    refine RnL.cons (fun g3 A_ W_ hs_ => ?_) ?_
    · have q37_ := hs_.val 16 rfl rfl rfl
      refine Rn.val fun K_ hK_ => ?_
      go_simp
      exact hK_.out _ (Ext.refl _)
    exact RnL.nil
  simp only [fs, Kd.value, puts, Act.put, List.setIfInBounds_toArray, List.set_cons_zero, List.set_cons_succ]
  have HX4 : Hid (Ext w w4) := Lib.hid (HX3.out.drew.trans hx_)
  clear hx_ hm_ hne_
  go_wp2
  go_ret2
  exact ⟨rfl, HX4.out⟩

set_option maxRecDepth 100000 in
set_option maxHeartbeats 4000000 in
theorem known15_c (w : World) (g : Gd w) : Calls Tryz.prog 11 #[] w (Ret w (.bool true)) := by
  have HG := Lib.hid g
  clear g
  go_enter Tryz.func11, Tryz.ntmps11
  go_wp2_with fail
  refine (kv_1_0_1 _ (HG.out.ext (Ext.refl w))).mono ?_; rintro e w1 ⟨rfl, e1⟩
  have HX1 : Hid (Ext w w1) := Lib.hid ((Ext.refl w).trans e1)
  clear e1
  go_wp2_with fail
  refine (kstrike _ (HG.out.ext HX1.out)).mono ?_; rintro e w2 ⟨rfl, e2⟩
  have HX2 : Hid (Ext w w2) := Lib.hid (HX1.out.trans e2)
  clear e2
  go_wp2_with fail
  refine (kv_1_2 _ (HG.out.ext (HX2.out.alloc _))).mono ?_; rintro e w3 ⟨rfl, e3⟩
  have HX3 : Hid (Ext w w3) := Lib.hid ((HX2.out.alloc _).trans e3)
  have HB0_3 : Hid (Blk w3 (w2.heap.size) #[.string ⟨#[48]⟩, .string ⟨#[49]⟩] 24) := Lib.hid (Blk.ext (Blk.new' (w := _) (cs := #[.string ⟨#[48]⟩, .string ⟨#[49]⟩]) (t := 24) (by first | rfl | (simp only [World.size_alloc]; done) | (simp only [World.size_alloc]; omega) | simp)) e3)
  have HGEB0 : Hid (w.heap.size ≤ w2.heap.size) := Lib.hid (by have := HX2.out.size; first | omega | (simp only []; omega) | (simp; omega))
  clear e3
  go_wp2_with fail
  refine (kofd _ (HG.out.ext HX3.out)).mono ?_; rintro e w4 ⟨rfl, e4⟩
  have HX4 : Hid (Ext w w4) := Lib.hid (HX3.out.trans e4)
  have HB0_4 := Lib.hid (Blk.ext HB0_3.out e4)
  clear e4
  go_wp2_with fail
  refine (vof0 _ (HG.out.ext (HX4.out.alloc _))).mono ?_; rintro e w5 ⟨rfl, e5⟩
  have HX5 : Hid (Ext w w5) := Lib.hid ((HX4.out.alloc _).trans e5)
  have HB0_5 : Hid (Blk w5 (w2.heap.size) #[.string ⟨#[48]⟩, .string ⟨#[49]⟩] 24) := Lib.hid (Blk.ext (HB0_4.out.alloc _) e5)
  have HB1_5 : Hid (Blk w5 (w4.heap.size) #[.int .i64 0, .string ⟨#[49, 47, 50]⟩] 28) := Lib.hid (Blk.ext (Blk.new' (w := _) (cs := #[.int .i64 0, .string ⟨#[49, 47, 50]⟩]) (t := 28) (by first | rfl | (simp only [World.size_alloc]; done) | (simp only [World.size_alloc]; omega) | simp)) e5)
  have HGEB1 : Hid (w.heap.size ≤ w4.heap.size) := Lib.hid (by have := HX4.out.size; first | omega | (simp only []; omega) | (simp; omega))
  clear e5
  go_wp2_with fail
  refine (kv_1_0_1 _ (HG.out.ext HX5.out)).mono ?_; rintro e w6 ⟨rfl, e6⟩
  have HX6 : Hid (Ext w w6) := Lib.hid (HX5.out.trans e6)
  have HB0_6 := Lib.hid (Blk.ext HB0_5.out e6)
  have HB1_6 := Lib.hid (Blk.ext HB1_5.out e6)
  clear e6
  go_wp2_with fail
  refine (kv_0_1_2 _ (HG.out.ext HX6.out)).mono ?_; rintro e w7 ⟨rfl, e7⟩
  have HX7 : Hid (Ext w w7) := Lib.hid (HX6.out.trans e7)
  have HB0_7 := Lib.hid (Blk.ext HB0_6.out e7)
  have HB1_7 := Lib.hid (Blk.ext HB1_6.out e7)
  clear e7
  go_wp2_with fail
  refine (kthree _ (HG.out.ext HX7.out)).mono ?_; rintro e w8 ⟨rfl, e8⟩
  have HX8 : Hid (Ext w w8) := Lib.hid (HX7.out.trans e8)
  have HB0_8 := Lib.hid (Blk.ext HB0_7.out e8)
  have HB1_8 := Lib.hid (Blk.ext HB1_7.out e8)
  clear e8
  go_wp2_with fail
  refine (kv_m1_m2_1 _ (HG.out.ext (HX8.out.alloc _))).mono ?_; rintro e w9 ⟨rfl, e9⟩
  have HX9 : Hid (Ext w w9) := Lib.hid ((HX8.out.alloc _).trans e9)
  have HB0_9 : Hid (Blk w9 (w2.heap.size) #[.string ⟨#[48]⟩, .string ⟨#[49]⟩] 24) := Lib.hid (Blk.ext (HB0_8.out.alloc _) e9)
  have HB1_9 : Hid (Blk w9 (w4.heap.size) #[.int .i64 0, .string ⟨#[49, 47, 50]⟩] 28) := Lib.hid (Blk.ext (HB1_8.out.alloc _) e9)
  have HB2_9 : Hid (Blk w9 (w8.heap.size) #[.string ⟨#[45, 49]⟩, .string ⟨#[45, 50]⟩, .string ⟨#[49]⟩, .string ⟨#[48]⟩] 39) := Lib.hid (Blk.ext (Blk.new' (w := _) (cs := #[.string ⟨#[45, 49]⟩, .string ⟨#[45, 50]⟩, .string ⟨#[49]⟩, .string ⟨#[48]⟩]) (t := 39) (by first | rfl | (simp only [World.size_alloc]; done) | (simp only [World.size_alloc]; omega) | simp)) e9)
  have HGEB2 : Hid (w.heap.size ≤ w8.heap.size) := Lib.hid (by have := HX8.out.size; first | omega | (simp only []; omega) | (simp; omega))
  clear e9
  go_wp2_with fail
  refine (kv_1_1 _ (HG.out.ext HX9.out)).mono ?_; rintro e w10 ⟨rfl, e10⟩
  have HX10 : Hid (Ext w w10) := Lib.hid (HX9.out.trans e10)
  have HB0_10 := Lib.hid (Blk.ext HB0_9.out e10)
  have HB1_10 := Lib.hid (Blk.ext HB1_9.out e10)
  have HB2_10 := Lib.hid (Blk.ext HB2_9.out e10)
  clear e10
  go_wp2_with fail
  refine (kapparent _ (HG.out.ext HX10.out)).mono ?_; rintro e w11 ⟨rfl, e11⟩
  have HX11 : Hid (Ext w w11) := Lib.hid (HX10.out.trans e11)
  have HB0_11 := Lib.hid (Blk.ext HB0_10.out e11)
  have HB1_11 := Lib.hid (Blk.ext HB1_10.out e11)
  have HB2_11 := Lib.hid (Blk.ext HB2_10.out e11)
  clear e11
  have c0_0 := HB0_11.out.cell 0 rfl
  have c0_1 := HB0_11.out.cell 1 rfl
  have c1_0 := HB1_11.out.cell 0 rfl
  have c1_1 := HB1_11.out.cell 1 rfl
  have c2_0 := HB2_11.out.cell 0 rfl
  have c2_1 := HB2_11.out.cell 1 rfl
  have c2_2 := HB2_11.out.cell 2 rfl
  have c2_3 := HB2_11.out.cell 3 rfl
  go_wp2
  go_ret
  exact ⟨rfl, HX11.out⟩
end Go.Proofs.YtplimbgaoengfaaGreatDoor

namespace Go.Proofs.YtplimbgaoengfaaGreatDoor
open Go Go.RowKit
theorem right_q {s : ByteArray} (h : rq s = true) : ∃ q : Rat, s = qs q ∧ QB 200 q := by
  obtain ⟨q, hq, hn, hd⟩ := rq_true.1 h
  refine ⟨q, ?_, lt_of_dec_len hn, lt_of_dec_len hd⟩
  cases s with
  | mk d =>
    have : d.toList = ql q := hq
    unfold qs
    congr 1
    rw [← this]
end Go.Proofs.YtplimbgaoengfaaGreatDoor
