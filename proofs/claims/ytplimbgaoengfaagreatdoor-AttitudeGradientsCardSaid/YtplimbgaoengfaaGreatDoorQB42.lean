/- Part 42 of the proof: N7. -/
import Derived.Test.YtplimbgaoengfaaGreatDoorQB1
import Derived.Test.YtplimbgaoengfaaGreatDoorQB2
import Derived.Test.YtplimbgaoengfaaGreatDoorQB3
import Derived.Test.YtplimbgaoengfaaGreatDoorQB4
import Derived.Test.YtplimbgaoengfaaGreatDoorQB5
import Derived.Test.YtplimbgaoengfaaGreatDoorQB6
import Derived.Test.YtplimbgaoengfaaGreatDoorQB7
import Derived.Test.YtplimbgaoengfaaGreatDoorQB8
import Derived.Test.YtplimbgaoengfaaGreatDoorQB9
import Derived.Test.YtplimbgaoengfaaGreatDoorQB10
import Derived.Test.YtplimbgaoengfaaGreatDoorQB11
import Derived.Test.YtplimbgaoengfaaGreatDoorQB12
import Derived.Test.YtplimbgaoengfaaGreatDoorQB13
import Derived.Test.YtplimbgaoengfaaGreatDoorQB14
import Derived.Test.YtplimbgaoengfaaGreatDoorQB15
import Derived.Test.YtplimbgaoengfaaGreatDoorQB16
import Derived.Test.YtplimbgaoengfaaGreatDoorQB17
import Derived.Test.YtplimbgaoengfaaGreatDoorQB18
import Derived.Test.YtplimbgaoengfaaGreatDoorQB19
import Derived.Test.YtplimbgaoengfaaGreatDoorQB20
import Derived.Test.YtplimbgaoengfaaGreatDoorQB21
import Derived.Test.YtplimbgaoengfaaGreatDoorQB22
import Derived.Test.YtplimbgaoengfaaGreatDoorQB23
import Derived.Test.YtplimbgaoengfaaGreatDoorQB24
import Derived.Test.YtplimbgaoengfaaGreatDoorQB25
import Derived.Test.YtplimbgaoengfaaGreatDoorQB26
import Derived.Test.YtplimbgaoengfaaGreatDoorQB27
import Derived.Test.YtplimbgaoengfaaGreatDoorQB28
import Derived.Test.YtplimbgaoengfaaGreatDoorQB29
import Derived.Test.YtplimbgaoengfaaGreatDoorQB30
import Derived.Test.YtplimbgaoengfaaGreatDoorQB31
import Derived.Test.YtplimbgaoengfaaGreatDoorQB32
import Derived.Test.YtplimbgaoengfaaGreatDoorQB33
import Derived.Test.YtplimbgaoengfaaGreatDoorQB39
import Derived.Test.YtplimbgaoengfaaGreatDoorQB40
import Derived.Test.YtplimbgaoengfaaGreatDoorQB41
namespace Go.Proofs.YtplimbgaoengfaaGreatDoor
open Go Go.RowKit
theorem grad_back (p : P2) (w : World) (g : Gd w) (hp : PB 24 p) : Calls Tryz.prog 27 #[.agg #[.string (qs (-p.x)), .string (qs (-p.y)), .string ⟨#[49]⟩]] w (Ret w (.tuple #[pv p, .int .i64 0])) := by
  have q1 : QB 24 1 := (⟨by decide, by decide⟩ : QB 1 1).mono (by decide)
  have e1 : -(-p.x) / 1 = p.x := by rw [Rat.neg_neg, Rat.div_def, show (1 : Rat)⁻¹ = 1 by decide +kernel, Rat.mul_one]
  have e2 : -(-p.y) / 1 = p.y := by rw [Rat.neg_neg, Rat.div_def, show (1 : Rat)⁻¹ = 1 by decide +kernel, Rat.mul_one]
  have := agrad_ok ⟨-p.x, -p.y, 1⟩ w g ⟨hp.x.neg.mono (by decide), hp.y.neg.mono (by decide), q1.mono (by decide)⟩ ⟨hp.x.neg, hp.y.neg, q1⟩ (fun h => absurd (show (1 : Rat) = 0 from h.2.2) (by decide +kernel)) (by show (1 : Rat) ≠ 0; decide +kernel)
  simpa only [e1, e2, qs_one] using this

set_option maxRecDepth 100000 in
set_option maxHeartbeats 8000000 in
theorem grad15_L (n : T3) (a : T2) (w : World) (g : Gd w) (hsz : [n.x, n.y, n.z, a.x, a.y].all sz24 = false) : Calls Tryz.prog 6 #[.agg #[.string n.x, .string n.y, .string n.z], .agg #[.string a.x, .string a.y]] w (Ret w (.bool true)) := by
  have HG := Lib.hid g
  clear g
  have HSZ := Lib.hid hsz
  clear hsz
  go_enter Tryz.func6, Tryz.ntmps6
  go_wp2_with fail
  refine (known15_c _ (HG.out.ext (((Ext.refl w).alloc _).alloc _))).mono ?_; rintro e w1 ⟨rfl, e1⟩
  have HX1 : Hid (Ext w w1) := Lib.hid ((((Ext.refl w).alloc _).alloc _).trans e1)
  have HB0_1 : Hid (Blk w1 (w.heap.size) #[.string n.x, .string n.y, .string n.z] 37) := Lib.hid (Blk.ext ((Blk.new' (w := _) (cs := #[.string n.x, .string n.y, .string n.z]) (t := 37) (by first | rfl | (simp only [World.size_alloc]; done) | (simp only [World.size_alloc]; omega) | simp)).alloc _) e1)
  have HB1_1 : Hid (Blk w1 (w.heap.size + 1) #[.string a.x, .string a.y] 24) := Lib.hid (Blk.ext (Blk.new' (w := _) (cs := #[.string a.x, .string a.y]) (t := 24) (by first | rfl | (simp only [World.size_alloc]; done) | (simp only [World.size_alloc]; omega) | simp)) e1)
  have HGEB0 : Hid (w.heap.size ≤ w.heap.size) := Lib.hid (by first | omega | (simp only []; omega) | (simp; omega))
  have HGEB1 : Hid (w.heap.size ≤ w.heap.size + 1) := Lib.hid (by first | omega | (simp only []; omega) | (simp; omega))
  clear e1
  have c0_0 := HB0_1.out.cell 0 rfl
  have c0_1 := HB0_1.out.cell 1 rfl
  have c0_2 := HB0_1.out.cell 2 rfl
  have c1_0 := HB1_1.out.cell 0 rfl
  have c1_1 := HB1_1.out.cell 1 rfl
  go_wp2_with fail
  refine (short15_b [n.x, n.y, n.z, a.x, a.y] 5 (w1.heap.size) false _ rfl (by decide) HSZ.out (Blk.new' (w := _) (cs := #[.string n.x, .string n.y, .string n.z, .string a.x, .string a.y]) (t := 22) (by first | rfl | (simp only [World.size_alloc]; done) | (simp only [World.size_alloc]; omega) | simp))).mono ?_; rintro e w2 ⟨rfl, e2⟩
  have HX2 : Hid (Ext w w2) := Lib.hid ((HX1.out.alloc _).trans e2)
  have HB2_2 : Hid (Blk w2 (w1.heap.size) #[.string n.x, .string n.y, .string n.z, .string a.x, .string a.y] 22) := Lib.hid (Blk.ext (Blk.new' (w := _) (cs := #[.string n.x, .string n.y, .string n.z, .string a.x, .string a.y]) (t := 22) (by first | rfl | (simp only [World.size_alloc]; done) | (simp only [World.size_alloc]; omega) | simp)) e2)
  have HGEB2 : Hid (w.heap.size ≤ w1.heap.size) := Lib.hid (by have := HX1.out.size; first | omega | (simp only []; omega) | (simp; omega))
  clear e2 c0_0 c0_1 c0_2 c1_0 c1_1
  go_wp2_with fail
  refine (known15_c _ (HG.out.ext HX2.out)).mono ?_; rintro e w3 ⟨rfl, e3⟩
  have HX3 : Hid (Ext w w3) := Lib.hid (HX2.out.trans e3)
  clear e3
  go_wp2
  go_ret
  exact ⟨rfl, HX3.out⟩

set_option maxRecDepth 100000 in
set_option maxHeartbeats 16000000 in
theorem grad15_EE (n : T3) (a : T2) (w : World) (g : Gd w) (hsz : [n.x, n.y, n.z, a.x, a.y].all sz24 = true) (hr : n.l.all rq = false) (ha : a.l.all rq = false) : Calls Tryz.prog 6 #[.agg #[.string n.x, .string n.y, .string n.z], .agg #[.string a.x, .string a.y]] w (Ret w (.bool true)) := by
  have HR := Lib.hid hr
  have HAW := Lib.hid ha
  have HG := Lib.hid g
  clear hr ha g
  have HSZ := Lib.hid hsz
  simp only [List.all_cons, List.all_nil, Bool.and_true, Bool.and_eq_true, sz24_true] at hsz
  obtain ⟨s0, s1, s2, s3, s4⟩ := hsz
  have HE : Hid (terr n.l = 2) := Lib.hid (terr_2 HR.out)
  have HN : Hid (TS n) := Lib.hid ⟨(Nat.le_trans s0 (by decide)), (Nat.le_trans s1 (by decide)), (Nat.le_trans s2 (by decide))⟩
  have HA : Hid (TS2 a) := Lib.hid ⟨(Nat.le_trans s3 (by decide)), (Nat.le_trans s4 (by decide))⟩
  have HRT : Hid ([a.x, a.y].all rq = false) := HAW
  have HL2 : Hid (∀ (i : Nat) (hi : i < [a.x, a.y].length), ([a.x, a.y][i]).size ≤ 1000000) := Lib.hid (sizes2 HA.out.x HA.out.y)
  clear s0 s1 s2 s3 s4
  go_enter Tryz.func6, Tryz.ntmps6
  go_wp2_with fail
  refine (known15_c _ (HG.out.ext (((Ext.refl w).alloc _).alloc _))).mono ?_; rintro e w1 ⟨rfl, e1⟩
  have HX1 : Hid (Ext w w1) := Lib.hid ((((Ext.refl w).alloc _).alloc _).trans e1)
  have HB0_1 : Hid (Blk w1 (w.heap.size) #[.string n.x, .string n.y, .string n.z] 37) := Lib.hid (Blk.ext ((Blk.new' (w := _) (cs := #[.string n.x, .string n.y, .string n.z]) (t := 37) (by first | rfl | (simp only [World.size_alloc]; done) | (simp only [World.size_alloc]; omega) | simp)).alloc _) e1)
  have HB1_1 : Hid (Blk w1 (w.heap.size + 1) #[.string a.x, .string a.y] 24) := Lib.hid (Blk.ext (Blk.new' (w := _) (cs := #[.string a.x, .string a.y]) (t := 24) (by first | rfl | (simp only [World.size_alloc]; done) | (simp only [World.size_alloc]; omega) | simp)) e1)
  have HGEB0 : Hid (w.heap.size ≤ w.heap.size) := Lib.hid (by first | omega | (simp only []; omega) | (simp; omega))
  have HGEB1 : Hid (w.heap.size ≤ w.heap.size + 1) := Lib.hid (by first | omega | (simp only []; omega) | (simp; omega))
  clear e1
  have c0_0 := HB0_1.out.cell 0 rfl
  have c0_1 := HB0_1.out.cell 1 rfl
  have c0_2 := HB0_1.out.cell 2 rfl
  have c1_0 := HB1_1.out.cell 0 rfl
  have c1_1 := HB1_1.out.cell 1 rfl
  go_wp2_with fail
  refine (short15_b [n.x, n.y, n.z, a.x, a.y] 5 (w1.heap.size) true _ rfl (by decide) HSZ.out (Blk.new' (w := _) (cs := #[.string n.x, .string n.y, .string n.z, .string a.x, .string a.y]) (t := 22) (by first | rfl | (simp only [World.size_alloc]; done) | (simp only [World.size_alloc]; omega) | simp))).mono ?_; rintro e w2 ⟨rfl, e2⟩
  have HX2 : Hid (Ext w w2) := Lib.hid ((HX1.out.alloc _).trans e2)
  have HB0_2 : Hid (Blk w2 (w.heap.size) #[.string n.x, .string n.y, .string n.z] 37) := Lib.hid (Blk.ext (HB0_1.out.alloc _) e2)
  have HB1_2 : Hid (Blk w2 (w.heap.size + 1) #[.string a.x, .string a.y] 24) := Lib.hid (Blk.ext (HB1_1.out.alloc _) e2)
  have HB2_2 : Hid (Blk w2 (w1.heap.size) #[.string n.x, .string n.y, .string n.z, .string a.x, .string a.y] 22) := Lib.hid (Blk.ext (Blk.new' (w := _) (cs := #[.string n.x, .string n.y, .string n.z, .string a.x, .string a.y]) (t := 22) (by first | rfl | (simp only [World.size_alloc]; done) | (simp only [World.size_alloc]; omega) | simp)) e2)
  have HGEB2 : Hid (w.heap.size ≤ w1.heap.size) := Lib.hid (by have := HX1.out.size; first | omega | (simp only []; omega) | (simp; omega))
  clear e2 c0_0 c0_1 c0_2 c1_0 c1_1
  have c0_0 := HB0_2.out.cell 0 rfl
  have c0_1 := HB0_2.out.cell 1 rfl
  have c0_2 := HB0_2.out.cell 2 rfl
  go_wp2_with fail
  refine (agrad_e n _ (HG.out.ext HX2.out) HN.out HE.out).mono ?_; rintro e w3 ⟨rfl, e3⟩
  have HX3 : Hid (Ext w w3) := Lib.hid (HX2.out.trans e3)
  have HB0_3 := Lib.hid (Blk.ext HB0_2.out e3)
  have HB1_3 := Lib.hid (Blk.ext HB1_2.out e3)
  clear e3 c0_0 c0_1 c0_2
  go_upto_region 4 with fail
  refine wp_name (fun W => Ext w W ∧ Blk W (w.heap.size) #[.string n.x, .string n.y, .string n.z] 37 ∧ Blk W (w.heap.size + 1) #[.string a.x, .string a.y] 24 ∧ Blk W (w3.heap.size) #[.string ⟨#[]⟩, .string ⟨#[]⟩] 24) ⟨(HX3.out.alloc _), (HB0_3.out.alloc _), (HB1_3.out.alloc _), (Blk.new' (w := _) (cs := #[.string ⟨#[]⟩, .string ⟨#[]⟩]) (t := 24) (by first | rfl | (simp only [World.size_alloc]; done) | (simp only [World.size_alloc]; omega) | simp))⟩ ?_
  rintro w4 ⟨e4, bB0_4, bB1_4, bB3_4⟩
  have HX4 := Lib.hid e4; have HB0_4 := Lib.hid bB0_4; have HB1_4 := Lib.hid bB1_4; have HB3_4 := Lib.hid bB3_4
  have HGEB3 : Hid (w.heap.size ≤ w3.heap.size) := Lib.hid (by have := HX3.out.size; first | omega | (simp only []; omega) | (simp; omega))
  clear e4 bB0_4 bB1_4 bB3_4
  have c1_0 := HB1_4.out.cell 0 rfl
  have c1_1 := HB1_4.out.cell 1 rfl
  go_wp2_with fail
  refine (anorm_e a _ (HG.out.ext HX4.out) HA.out (terr_2 HAW.out)).mono ?_; rintro e w5 ⟨rfl, e5⟩
  have HX5 : Hid (Ext w w5) := Lib.hid (HX4.out.trans e5)
  have HB0_5 := Lib.hid (Blk.ext HB0_4.out e5)
  have HB1_5 := Lib.hid (Blk.ext HB1_4.out e5)
  have HB3_5 := Lib.hid (Blk.ext HB3_4.out e5)
  clear e5 c1_0 c1_1
  go_upto_region 5 with fail
  refine wp_name (fun W => Ext w W ∧ Blk W (w.heap.size) #[.string n.x, .string n.y, .string n.z] 37 ∧ Blk W (w.heap.size + 1) #[.string a.x, .string a.y] 24 ∧ Blk W (w3.heap.size) #[.string ⟨#[]⟩, .string ⟨#[]⟩] 24 ∧ Blk W (w5.heap.size) #[.string ⟨#[]⟩, .string ⟨#[]⟩, .string ⟨#[]⟩] 37) ⟨(HX5.out.alloc _), (HB0_5.out.alloc _), (HB1_5.out.alloc _), (HB3_5.out.alloc _), (Blk.new' (w := _) (cs := #[.string ⟨#[]⟩, .string ⟨#[]⟩, .string ⟨#[]⟩]) (t := 37) (by first | rfl | (simp only [World.size_alloc]; done) | (simp only [World.size_alloc]; omega) | simp))⟩ ?_
  rintro w6 ⟨e6, bB0_6, bB1_6, bB3_6, bB4_6⟩
  have HX6 := Lib.hid e6; have HB0_6 := Lib.hid bB0_6; have HB1_6 := Lib.hid bB1_6; have HB3_6 := Lib.hid bB3_6; have HB4_6 := Lib.hid bB4_6
  have HGEB4 : Hid (w.heap.size ≤ w5.heap.size) := Lib.hid (by have := HX5.out.size; first | omega | (simp only []; omega) | (simp; omega))
  clear e6 bB0_6 bB1_6 bB3_6 bB4_6
  have c0_0 := HB0_6.out.cell 0 rfl
  have c0_1 := HB0_6.out.cell 1 rfl
  have c0_2 := HB0_6.out.cell 2 rfl
  go_wp2_with fail
  refine (lnorm_e n _ (HG.out.ext HX6.out) HN.out HR.out).mono ?_; rintro e w7 ⟨rfl, e7⟩
  have HX7 : Hid (Ext w w7) := Lib.hid (HX6.out.trans e7)
  have HB1_7 := Lib.hid (Blk.ext HB1_6.out e7)
  have HB3_7 := Lib.hid (Blk.ext HB3_6.out e7)
  have HB4_7 := Lib.hid (Blk.ext HB4_6.out e7)
  clear e7 c0_0 c0_1 c0_2
  have c3_0 := HB3_7.out.cell 0 rfl
  have c3_1 := HB3_7.out.cell 1 rfl
  go_wp2_with fail
  refine wp_name (fun W => Ext w W ∧ Blk W (w.heap.size + 1) #[.string a.x, .string a.y] 24 ∧ Blk W (w5.heap.size) #[.string ⟨#[]⟩, .string ⟨#[]⟩, .string ⟨#[]⟩] 37) ⟨HX7.out, HB1_7.out, HB4_7.out⟩ ?_
  rintro w8 ⟨e8, bB1_8, bB4_8⟩
  have HX8 := Lib.hid e8; have HB1_8 := Lib.hid bB1_8; have HB4_8 := Lib.hid bB4_8
  clear e8 bB1_8 bB4_8 c3_0 c3_1
  refine region_lin [.val (.int .i64 2), .val (.bool false), .val (.bool false), .off, .off, .off, .off, .off, .off, .off, .off, .off, .off, .off, .off, .off, .off, .off, .off, .off, .off, .off, .val (.bool false)] (by kernel_rfl) (by kernel_rfl) (by kernel_rfl) ?_ (fun g8 w9 hx_ hm_ hne_ => ?_)
  · skip
    refine RnL.cons (fun g8 A_ W_ hs_ => ?_) ?_
    · have q9_ := (hs_.old 9 (by kernel_rfl) : A_.tmps[9]?.getD undef = .int .i64 2)
      refine Rn.val fun K_ hK_ => ?_
      go_simp
      exact hK_.out _ (Ext.refl _)
    refine RnL.cons (fun g8 A_ W_ hs_ => ?_) ?_
    · have q61_ := hs_.val 0 rfl rfl rfl
      refine Rn.val fun K_ hK_ => ?_
      go_simp
      exact hK_.out _ (Ext.refl _)
    refine RnL.cons (fun g8 A_ W_ hs_ => ?_) ?_
    · have q62_ := hs_.val 1 rfl rfl rfl
      refine Rn.val fun K_ hK_ => ?_
      go_simp
      exact hK_.out _ (Ext.refl _)
    refine RnL.cons (fun g8 A_ W_ hs_ => ?_) ?_
    · exact Rn.off
    refine RnL.cons (fun g8 A_ W_ hs_ => ?_) ?_
    · exact Rn.off
    refine RnL.cons (fun g8 A_ W_ hs_ => ?_) ?_
    · exact Rn.off
    refine RnL.cons (fun g8 A_ W_ hs_ => ?_) ?_
    · exact Rn.off
    refine RnL.cons (fun g8 A_ W_ hs_ => ?_) ?_
    · exact Rn.off
    refine RnL.cons (fun g8 A_ W_ hs_ => ?_) ?_
    · exact Rn.off
    refine RnL.cons (fun g8 A_ W_ hs_ => ?_) ?_
    · exact Rn.off
    refine RnL.cons (fun g8 A_ W_ hs_ => ?_) ?_
    · exact Rn.off
    refine RnL.cons (fun g8 A_ W_ hs_ => ?_) ?_
    · exact Rn.off
    refine RnL.cons (fun g8 A_ W_ hs_ => ?_) ?_
    · exact Rn.off
    refine RnL.cons (fun g8 A_ W_ hs_ => ?_) ?_
    · exact Rn.off
    refine RnL.cons (fun g8 A_ W_ hs_ => ?_) ?_
    · exact Rn.off
    refine RnL.cons (fun g8 A_ W_ hs_ => ?_) ?_
    · exact Rn.off
    refine RnL.cons (fun g8 A_ W_ hs_ => ?_) ?_
    · exact Rn.off
    refine RnL.cons (fun g8 A_ W_ hs_ => ?_) ?_
    · exact Rn.off
    refine RnL.cons (fun g8 A_ W_ hs_ => ?_) ?_
    · exact Rn.off
    refine RnL.cons (fun g8 A_ W_ hs_ => ?_) ?_
    · exact Rn.off
    refine RnL.cons (fun g8 A_ W_ hs_ => ?_) ?_
    · exact Rn.off
    refine RnL.cons (fun g8 A_ W_ hs_ => ?_) ?_
    · exact Rn.off
    refine RnL.cons (fun g8 A_ W_ hs_ => ?_) ?_
    · have q63_ := hs_.val 2 rfl rfl rfl
      have q82_ := hs_.un 21 rfl rfl rfl
      refine Rn.val fun K_ hK_ => ?_
      go_simp
      exact hK_.out _ (Ext.refl _)
    exact RnL.nil
  simp only [fs, Kd.value, puts, Act.put, List.setIfInBounds_toArray, List.set_cons_zero, List.set_cons_succ]
  have HX9 : Hid (Ext w w9) := Lib.hid (HX8.out.drew.trans hx_)
  have HB1_9 := Lib.hid (HB1_8.out.drew.ext hx_)
  have HB4_9 := Lib.hid (HB4_8.out.drew.ext hx_)
  clear hx_ hm_ hne_
  have c1_0 := HB1_9.out.cell 0 rfl
  have c1_1 := HB1_9.out.cell 1 rfl
  go_wp2_with fail
  refine (right15_b [a.x, a.y] 2 (w9.heap.size) false _ (HG.out.ext (HX9.out.alloc _)) rfl (by decide) HL2.out HRT.out (Blk.new' (w := _) (cs := #[.string a.x, .string a.y]) (t := 22) (by first | rfl | (simp only [World.size_alloc]; done) | (simp only [World.size_alloc]; omega) | simp))).mono ?_; rintro e w10 ⟨rfl, e10⟩
  have HX10 : Hid (Ext w w10) := Lib.hid ((HX9.out.alloc _).trans e10)
  have HB4_10 : Hid (Blk w10 (w5.heap.size) #[.string ⟨#[]⟩, .string ⟨#[]⟩, .string ⟨#[]⟩] 37) := Lib.hid (Blk.ext (HB4_9.out.alloc _) e10)
  have HB5_10 : Hid (Blk w10 (w9.heap.size) #[.string a.x, .string a.y] 22) := Lib.hid (Blk.ext (Blk.new' (w := _) (cs := #[.string a.x, .string a.y]) (t := 22) (by first | rfl | (simp only [World.size_alloc]; done) | (simp only [World.size_alloc]; omega) | simp)) e10)
  have HGEB5 : Hid (w.heap.size ≤ w9.heap.size) := Lib.hid (by have := HX9.out.size; first | omega | (simp only []; omega) | (simp; omega))
  clear e10 c1_0 c1_1
  have c4_0 := HB4_10.out.cell 0 rfl
  have c4_1 := HB4_10.out.cell 1 rfl
  have c4_2 := HB4_10.out.cell 2 rfl
  go_wp2
  go_ret
  exact ⟨rfl, HX10.out⟩

set_option maxRecDepth 100000 in
set_option maxHeartbeats 16000000 in
theorem grad15_ER (n : T3) (a : P2) (w : World) (g : Gd w) (hsz : [n.x, n.y, n.z, qs a.x, qs a.y].all sz24 = true) (hr : n.l.all rq = false) : Calls Tryz.prog 6 #[.agg #[.string n.x, .string n.y, .string n.z], .agg #[.string (qs a.x), .string (qs a.y)]] w (Ret w (.bool true)) := by
  have HR := Lib.hid hr
  have HG := Lib.hid g
  clear hr g
  have HSZ := Lib.hid hsz
  simp only [List.all_cons, List.all_nil, Bool.and_true, Bool.and_eq_true, sz24_true] at hsz
  obtain ⟨s0, s1, s2, s3, s4⟩ := hsz
  have HE : Hid (terr n.l = 2) := Lib.hid (terr_2 HR.out)
  have HN : Hid (TS n) := Lib.hid ⟨(Nat.le_trans s0 (by decide)), (Nat.le_trans s1 (by decide)), (Nat.le_trans s2 (by decide))⟩
  have HA4 : Hid (PB 24 a) := Lib.hid ⟨qb_of_size s3, qb_of_size s4⟩; have HA2 : Hid (PB 200 a) := Lib.hid (HA4.out.mono (by decide))
  have HRT : Hid ([qs a.x, qs a.y].all rq = true) := Lib.hid HA2.out.all
  have HL2 : Hid (∀ (i : Nat) (hi : i < [qs a.x, qs a.y].length), ([qs a.x, qs a.y][i]).size ≤ 1000000) := Lib.hid (sizes2 HA2.out.ts.x HA2.out.ts.y)
  clear s0 s1 s2 s3 s4
  go_enter Tryz.func6, Tryz.ntmps6
  go_wp2_with fail
  refine (known15_c _ (HG.out.ext (((Ext.refl w).alloc _).alloc _))).mono ?_; rintro e w1 ⟨rfl, e1⟩
  have HX1 : Hid (Ext w w1) := Lib.hid ((((Ext.refl w).alloc _).alloc _).trans e1)
  have HB0_1 : Hid (Blk w1 (w.heap.size) #[.string n.x, .string n.y, .string n.z] 37) := Lib.hid (Blk.ext ((Blk.new' (w := _) (cs := #[.string n.x, .string n.y, .string n.z]) (t := 37) (by first | rfl | (simp only [World.size_alloc]; done) | (simp only [World.size_alloc]; omega) | simp)).alloc _) e1)
  have HB1_1 : Hid (Blk w1 (w.heap.size + 1) #[.string (qs a.x), .string (qs a.y)] 24) := Lib.hid (Blk.ext (Blk.new' (w := _) (cs := #[.string (qs a.x), .string (qs a.y)]) (t := 24) (by first | rfl | (simp only [World.size_alloc]; done) | (simp only [World.size_alloc]; omega) | simp)) e1)
  have HGEB0 : Hid (w.heap.size ≤ w.heap.size) := Lib.hid (by first | omega | (simp only []; omega) | (simp; omega))
  have HGEB1 : Hid (w.heap.size ≤ w.heap.size + 1) := Lib.hid (by first | omega | (simp only []; omega) | (simp; omega))
  clear e1
  have c0_0 := HB0_1.out.cell 0 rfl
  have c0_1 := HB0_1.out.cell 1 rfl
  have c0_2 := HB0_1.out.cell 2 rfl
  have c1_0 := HB1_1.out.cell 0 rfl
  have c1_1 := HB1_1.out.cell 1 rfl
  go_wp2_with fail
  refine (short15_b [n.x, n.y, n.z, qs a.x, qs a.y] 5 (w1.heap.size) true _ rfl (by decide) HSZ.out (Blk.new' (w := _) (cs := #[.string n.x, .string n.y, .string n.z, .string (qs a.x), .string (qs a.y)]) (t := 22) (by first | rfl | (simp only [World.size_alloc]; done) | (simp only [World.size_alloc]; omega) | simp))).mono ?_; rintro e w2 ⟨rfl, e2⟩
  have HX2 : Hid (Ext w w2) := Lib.hid ((HX1.out.alloc _).trans e2)
  have HB0_2 : Hid (Blk w2 (w.heap.size) #[.string n.x, .string n.y, .string n.z] 37) := Lib.hid (Blk.ext (HB0_1.out.alloc _) e2)
  have HB1_2 : Hid (Blk w2 (w.heap.size + 1) #[.string (qs a.x), .string (qs a.y)] 24) := Lib.hid (Blk.ext (HB1_1.out.alloc _) e2)
  have HB2_2 : Hid (Blk w2 (w1.heap.size) #[.string n.x, .string n.y, .string n.z, .string (qs a.x), .string (qs a.y)] 22) := Lib.hid (Blk.ext (Blk.new' (w := _) (cs := #[.string n.x, .string n.y, .string n.z, .string (qs a.x), .string (qs a.y)]) (t := 22) (by first | rfl | (simp only [World.size_alloc]; done) | (simp only [World.size_alloc]; omega) | simp)) e2)
  have HGEB2 : Hid (w.heap.size ≤ w1.heap.size) := Lib.hid (by have := HX1.out.size; first | omega | (simp only []; omega) | (simp; omega))
  clear e2 c0_0 c0_1 c0_2 c1_0 c1_1
  have c0_0 := HB0_2.out.cell 0 rfl
  have c0_1 := HB0_2.out.cell 1 rfl
  have c0_2 := HB0_2.out.cell 2 rfl
  go_wp2_with fail
  refine (agrad_e n _ (HG.out.ext HX2.out) HN.out HE.out).mono ?_; rintro e w3 ⟨rfl, e3⟩
  have HX3 : Hid (Ext w w3) := Lib.hid (HX2.out.trans e3)
  have HB0_3 := Lib.hid (Blk.ext HB0_2.out e3)
  have HB1_3 := Lib.hid (Blk.ext HB1_2.out e3)
  clear e3 c0_0 c0_1 c0_2
  go_upto_region 4 with fail
  refine wp_name (fun W => Ext w W ∧ Blk W (w.heap.size) #[.string n.x, .string n.y, .string n.z] 37 ∧ Blk W (w.heap.size + 1) #[.string (qs a.x), .string (qs a.y)] 24 ∧ Blk W (w3.heap.size) #[.string ⟨#[]⟩, .string ⟨#[]⟩] 24) ⟨(HX3.out.alloc _), (HB0_3.out.alloc _), (HB1_3.out.alloc _), (Blk.new' (w := _) (cs := #[.string ⟨#[]⟩, .string ⟨#[]⟩]) (t := 24) (by first | rfl | (simp only [World.size_alloc]; done) | (simp only [World.size_alloc]; omega) | simp))⟩ ?_
  rintro w4 ⟨e4, bB0_4, bB1_4, bB3_4⟩
  have HX4 := Lib.hid e4; have HB0_4 := Lib.hid bB0_4; have HB1_4 := Lib.hid bB1_4; have HB3_4 := Lib.hid bB3_4
  have HGEB3 : Hid (w.heap.size ≤ w3.heap.size) := Lib.hid (by have := HX3.out.size; first | omega | (simp only []; omega) | (simp; omega))
  clear e4 bB0_4 bB1_4 bB3_4
  have c1_0 := HB1_4.out.cell 0 rfl
  have c1_1 := HB1_4.out.cell 1 rfl
  go_wp2_with fail
  refine (anorm_ok a _ (HG.out.ext HX4.out) HA2.out).mono ?_; rintro e w5 ⟨rfl, e5⟩
  have HX5 : Hid (Ext w w5) := Lib.hid (HX4.out.trans e5)
  have HB0_5 := Lib.hid (Blk.ext HB0_4.out e5)
  have HB1_5 := Lib.hid (Blk.ext HB1_4.out e5)
  have HB3_5 := Lib.hid (Blk.ext HB3_4.out e5)
  clear e5 c1_0 c1_1
  go_upto_region 5 with fail
  refine wp_name (fun W => Ext w W ∧ Blk W (w.heap.size) #[.string n.x, .string n.y, .string n.z] 37 ∧ Blk W (w.heap.size + 1) #[.string (qs a.x), .string (qs a.y)] 24 ∧ Blk W (w3.heap.size) #[.string ⟨#[]⟩, .string ⟨#[]⟩] 24 ∧ Blk W (w5.heap.size) #[.string (qs (-a.x)), .string (qs (-a.y)), .string ⟨#[49]⟩] 37) ⟨(HX5.out.alloc _), (HB0_5.out.alloc _), (HB1_5.out.alloc _), (HB3_5.out.alloc _), (Blk.new' (w := _) (cs := #[.string (qs (-a.x)), .string (qs (-a.y)), .string ⟨#[49]⟩]) (t := 37) (by first | rfl | (simp only [World.size_alloc]; done) | (simp only [World.size_alloc]; omega) | simp))⟩ ?_
  rintro w6 ⟨e6, bB0_6, bB1_6, bB3_6, bB4_6⟩
  have HX6 := Lib.hid e6; have HB0_6 := Lib.hid bB0_6; have HB1_6 := Lib.hid bB1_6; have HB3_6 := Lib.hid bB3_6; have HB4_6 := Lib.hid bB4_6
  have HGEB4 : Hid (w.heap.size ≤ w5.heap.size) := Lib.hid (by have := HX5.out.size; first | omega | (simp only []; omega) | (simp; omega))
  clear e6 bB0_6 bB1_6 bB3_6 bB4_6
  have c0_0 := HB0_6.out.cell 0 rfl
  have c0_1 := HB0_6.out.cell 1 rfl
  have c0_2 := HB0_6.out.cell 2 rfl
  go_wp2_with fail
  refine (lnorm_e n _ (HG.out.ext HX6.out) HN.out HR.out).mono ?_; rintro e w7 ⟨rfl, e7⟩
  have HX7 : Hid (Ext w w7) := Lib.hid (HX6.out.trans e7)
  have HB1_7 := Lib.hid (Blk.ext HB1_6.out e7)
  have HB3_7 := Lib.hid (Blk.ext HB3_6.out e7)
  have HB4_7 := Lib.hid (Blk.ext HB4_6.out e7)
  clear e7 c0_0 c0_1 c0_2
  have c3_0 := HB3_7.out.cell 0 rfl
  have c3_1 := HB3_7.out.cell 1 rfl
  go_wp2_with fail
  refine wp_name (fun W => Ext w W ∧ Blk W (w.heap.size + 1) #[.string (qs a.x), .string (qs a.y)] 24 ∧ Blk W (w5.heap.size) #[.string (qs (-a.x)), .string (qs (-a.y)), .string ⟨#[49]⟩] 37) ⟨HX7.out, HB1_7.out, HB4_7.out⟩ ?_
  rintro w8 ⟨e8, bB1_8, bB4_8⟩
  have HX8 := Lib.hid e8; have HB1_8 := Lib.hid bB1_8; have HB4_8 := Lib.hid bB4_8
  clear e8 bB1_8 bB4_8 c3_0 c3_1
  refine region_lin [.val (.int .i64 2), .val (.bool false), .val (.bool false), .off, .off, .off, .off, .off, .off, .off, .off, .off, .off, .off, .off, .off, .off, .off, .off, .off, .off, .off, .val (.bool false)] (by kernel_rfl) (by kernel_rfl) (by kernel_rfl) ?_ (fun g8 w9 hx_ hm_ hne_ => ?_)
  · skip
    refine RnL.cons (fun g8 A_ W_ hs_ => ?_) ?_
    · have q9_ := (hs_.old 9 (by kernel_rfl) : A_.tmps[9]?.getD undef = .int .i64 2)
      refine Rn.val fun K_ hK_ => ?_
      go_simp
      exact hK_.out _ (Ext.refl _)
    refine RnL.cons (fun g8 A_ W_ hs_ => ?_) ?_
    · have q61_ := hs_.val 0 rfl rfl rfl
      refine Rn.val fun K_ hK_ => ?_
      go_simp
      exact hK_.out _ (Ext.refl _)
    refine RnL.cons (fun g8 A_ W_ hs_ => ?_) ?_
    · have q62_ := hs_.val 1 rfl rfl rfl
      refine Rn.val fun K_ hK_ => ?_
      go_simp
      exact hK_.out _ (Ext.refl _)
    refine RnL.cons (fun g8 A_ W_ hs_ => ?_) ?_
    · exact Rn.off
    refine RnL.cons (fun g8 A_ W_ hs_ => ?_) ?_
    · exact Rn.off
    refine RnL.cons (fun g8 A_ W_ hs_ => ?_) ?_
    · exact Rn.off
    refine RnL.cons (fun g8 A_ W_ hs_ => ?_) ?_
    · exact Rn.off
    refine RnL.cons (fun g8 A_ W_ hs_ => ?_) ?_
    · exact Rn.off
    refine RnL.cons (fun g8 A_ W_ hs_ => ?_) ?_
    · exact Rn.off
    refine RnL.cons (fun g8 A_ W_ hs_ => ?_) ?_
    · exact Rn.off
    refine RnL.cons (fun g8 A_ W_ hs_ => ?_) ?_
    · exact Rn.off
    refine RnL.cons (fun g8 A_ W_ hs_ => ?_) ?_
    · exact Rn.off
    refine RnL.cons (fun g8 A_ W_ hs_ => ?_) ?_
    · exact Rn.off
    refine RnL.cons (fun g8 A_ W_ hs_ => ?_) ?_
    · exact Rn.off
    refine RnL.cons (fun g8 A_ W_ hs_ => ?_) ?_
    · exact Rn.off
    refine RnL.cons (fun g8 A_ W_ hs_ => ?_) ?_
    · exact Rn.off
    refine RnL.cons (fun g8 A_ W_ hs_ => ?_) ?_
    · exact Rn.off
    refine RnL.cons (fun g8 A_ W_ hs_ => ?_) ?_
    · exact Rn.off
    refine RnL.cons (fun g8 A_ W_ hs_ => ?_) ?_
    · exact Rn.off
    refine RnL.cons (fun g8 A_ W_ hs_ => ?_) ?_
    · exact Rn.off
    refine RnL.cons (fun g8 A_ W_ hs_ => ?_) ?_
    · exact Rn.off
    refine RnL.cons (fun g8 A_ W_ hs_ => ?_) ?_
    · exact Rn.off
    refine RnL.cons (fun g8 A_ W_ hs_ => ?_) ?_
    · have q63_ := hs_.val 2 rfl rfl rfl
      have q82_ := hs_.un 21 rfl rfl rfl
      refine Rn.val fun K_ hK_ => ?_
      go_simp
      exact hK_.out _ (Ext.refl _)
    exact RnL.nil
  simp only [fs, Kd.value, puts, Act.put, List.setIfInBounds_toArray, List.set_cons_zero, List.set_cons_succ]
  have HX9 : Hid (Ext w w9) := Lib.hid (HX8.out.drew.trans hx_)
  have HB1_9 := Lib.hid (HB1_8.out.drew.ext hx_)
  have HB4_9 := Lib.hid (HB4_8.out.drew.ext hx_)
  clear hx_ hm_ hne_
  have c1_0 := HB1_9.out.cell 0 rfl
  have c1_1 := HB1_9.out.cell 1 rfl
  go_wp2_with fail
  refine (right15_b [qs a.x, qs a.y] 2 (w9.heap.size) true _ (HG.out.ext (HX9.out.alloc _)) rfl (by decide) HL2.out HRT.out (Blk.new' (w := _) (cs := #[.string (qs a.x), .string (qs a.y)]) (t := 22) (by first | rfl | (simp only [World.size_alloc]; done) | (simp only [World.size_alloc]; omega) | simp))).mono ?_; rintro e w10 ⟨rfl, e10⟩
  have HX10 : Hid (Ext w w10) := Lib.hid ((HX9.out.alloc _).trans e10)
  have HB1_10 : Hid (Blk w10 (w.heap.size + 1) #[.string (qs a.x), .string (qs a.y)] 24) := Lib.hid (Blk.ext (HB1_9.out.alloc _) e10)
  have HB4_10 : Hid (Blk w10 (w5.heap.size) #[.string (qs (-a.x)), .string (qs (-a.y)), .string ⟨#[49]⟩] 37) := Lib.hid (Blk.ext (HB4_9.out.alloc _) e10)
  have HB5_10 : Hid (Blk w10 (w9.heap.size) #[.string (qs a.x), .string (qs a.y)] 22) := Lib.hid (Blk.ext (Blk.new' (w := _) (cs := #[.string (qs a.x), .string (qs a.y)]) (t := 22) (by first | rfl | (simp only [World.size_alloc]; done) | (simp only [World.size_alloc]; omega) | simp)) e10)
  have HGEB5 : Hid (w.heap.size ≤ w9.heap.size) := Lib.hid (by have := HX9.out.size; first | omega | (simp only []; omega) | (simp; omega))
  clear e10 c1_0 c1_1
  have c4_0 := HB4_10.out.cell 0 rfl
  have c4_1 := HB4_10.out.cell 1 rfl
  have c4_2 := HB4_10.out.cell 2 rfl
  go_wp2_with fail
  refine (grad_back a _ (HG.out.ext HX10.out) HA4.out).mono ?_; rintro e w11 ⟨rfl, e11⟩
  have HX11 : Hid (Ext w w11) := Lib.hid (HX10.out.trans e11)
  have HB1_11 := Lib.hid (Blk.ext HB1_10.out e11)
  have HB4_11 := Lib.hid (Blk.ext HB4_10.out e11)
  clear e11 c4_0 c4_1 c4_2
  go_wp2_with fail
  refine wp_name (fun W => Ext w W ∧ Blk W (w.heap.size + 1) #[.string (qs a.x), .string (qs a.y)] 24 ∧ Blk W (w5.heap.size) #[.string (qs (-a.x)), .string (qs (-a.y)), .string ⟨#[49]⟩] 37 ∧ Blk W (w11.heap.size) #[.string (qs a.x), .string (qs a.y)] 24) ⟨(HX11.out.alloc _), (HB1_11.out.alloc _), (HB4_11.out.alloc _), (Blk.new' (w := _) (cs := #[.string (qs a.x), .string (qs a.y)]) (t := 24) (by first | rfl | (simp only [World.size_alloc]; done) | (simp only [World.size_alloc]; omega) | simp))⟩ ?_
  rintro w12 ⟨e12, bB1_12, bB4_12, bB6_12⟩
  have HX12 := Lib.hid e12; have HB1_12 := Lib.hid bB1_12; have HB4_12 := Lib.hid bB4_12; have HB6_12 := Lib.hid bB6_12
  have HGEB6 : Hid (w.heap.size ≤ w11.heap.size) := Lib.hid (by have := HX11.out.size; first | omega | (simp only []; omega) | (simp; omega))
  clear e12 bB1_12 bB4_12 bB6_12
  refine region_lin [.val (.agg #[.string (qs (-a.x)), .string (qs (-a.y)), .string ⟨#[49]⟩]), .val (.pointer (some ⟨w.heap.size + 1, 0, none⟩)), .val (.string (qs a.x)), .val (.string (qs (-a.x))), .val (.pointer (some ⟨w.heap.size + 1, 1, none⟩)), .val (.string (qs a.y)), .val (.string (qs (-a.y))), .val (.agg #[.string (qs (-a.x)), .string (qs (-a.y)), .string ⟨#[49]⟩]), .val (.bool true), .val (.bool true), .val (.int .i64 0), .val (.bool true), .val (.bool true), .val (.bool true), .val (.agg #[.string (qs a.x), .string (qs a.y)]), .val (.agg #[.string (qs a.x), .string (qs a.y)]), .val (.bool true), .val (.bool true), .val (.bool true), .val (.int .i64 0), .val (.bool true), .val (.bool true), .val (.bool true)] (by kernel_rfl) (by kernel_rfl) (by kernel_rfl) ?_ (fun g12 w13 hx_ hm_ hne_ => ?_)
  · skip
    refine RnL.cons (fun g12 A_ W_ hs_ => ?_) ?_
    · have q7_ := (hs_.old 7 (by kernel_rfl) : A_.tmps[7]?.getD undef = .pointer (some ⟨w5.heap.size, 0, none⟩))
      have cB4_0 := ((HB4_12.out.drew.ext hs_.1)).cell 0 rfl
      have cB4_1 := ((HB4_12.out.drew.ext hs_.1)).cell 1 rfl
      have cB4_2 := ((HB4_12.out.drew.ext hs_.1)).cell 2 rfl
      refine Rn.val fun K_ hK_ => ?_
      go_simp
      exact hK_.out _ (Ext.refl _)
    refine RnL.cons (fun g12 A_ W_ hs_ => ?_) ?_
    · have q3_ := (hs_.old 3 (by kernel_rfl) : A_.tmps[3]?.getD undef = .pointer (some ⟨w.heap.size + 1, 0, none⟩))
      refine Rn.val fun K_ hK_ => ?_
      go_simp
      exact hK_.out _ (Ext.refl _)
    refine RnL.cons (fun g12 A_ W_ hs_ => ?_) ?_
    · have q104_ := hs_.val 1 rfl rfl rfl
      have cB1_0 := ((HB1_12.out.drew.ext hs_.1)).cell 0 rfl
      refine Rn.val fun K_ hK_ => ?_
      go_simp
      exact hK_.out _ (Ext.refl _)
    refine RnL.cons (fun g12 A_ W_ hs_ => ?_) ?_
    · have q105_ := hs_.val 2 rfl rfl rfl
      refine Rn.val fun K_ hK_ => ?_
      go_simp
      refine (rneg_c a.x _ HA4.out.x (by omega)).mono ?_; rintro e W9_ ⟨rfl, e9_⟩; exact hK_.out _ e9_
    refine RnL.cons (fun g12 A_ W_ hs_ => ?_) ?_
    · have q3_ := (hs_.old 3 (by kernel_rfl) : A_.tmps[3]?.getD undef = .pointer (some ⟨w.heap.size + 1, 0, none⟩))
      refine Rn.val fun K_ hK_ => ?_
      go_simp
      exact hK_.out _ (Ext.refl _)
    refine RnL.cons (fun g12 A_ W_ hs_ => ?_) ?_
    · have q107_ := hs_.val 4 rfl rfl rfl
      have cB1_1 := ((HB1_12.out.drew.ext hs_.1)).cell 1 rfl
      refine Rn.val fun K_ hK_ => ?_
      go_simp
      exact hK_.out _ (Ext.refl _)
    refine RnL.cons (fun g12 A_ W_ hs_ => ?_) ?_
    · have q108_ := hs_.val 5 rfl rfl rfl
      refine Rn.val fun K_ hK_ => ?_
      go_simp
      refine (rneg_c a.y _ HA4.out.y (by omega)).mono ?_; rintro e W9_ ⟨rfl, e9_⟩; exact hK_.out _ e9_
    refine RnL.cons (fun g12 A_ W_ hs_ => ?_) ?_
    · have q106_ := hs_.val 3 rfl rfl rfl
      have q109_ := hs_.val 6 rfl rfl rfl
      refine Rn.val fun K_ hK_ => ?_
      go_simp
      exact hK_.out _ (Ext.refl _)
    refine RnL.cons (fun g12 A_ W_ hs_ => ?_) ?_
    · have q103_ := hs_.val 0 rfl rfl rfl
      have q110_ := hs_.val 7 rfl rfl rfl
      refine Rn.val fun K_ hK_ => ?_
      go_simp
      exact hK_.out _ (Ext.refl _)
    refine RnL.cons (fun g12 A_ W_ hs_ => ?_) ?_
    · have q111_ := hs_.val 8 rfl rfl rfl
      refine Rn.val fun K_ hK_ => ?_
      go_simp
      exact hK_.out _ (Ext.refl _)
    refine RnL.cons (fun g12 A_ W_ hs_ => ?_) ?_
    · have q8_ := (hs_.old 8 (by kernel_rfl) : A_.tmps[8]?.getD undef = .int .i64 0)
      refine Rn.val fun K_ hK_ => ?_
      go_simp
      exact hK_.out _ (Ext.refl _)
    refine RnL.cons (fun g12 A_ W_ hs_ => ?_) ?_
    · have q113_ := hs_.val 10 rfl rfl rfl
      refine Rn.val fun K_ hK_ => ?_
      go_simp
      exact hK_.out _ (Ext.refl _)
    refine RnL.cons (fun g12 A_ W_ hs_ => ?_) ?_
    · have q112_ := hs_.val 9 rfl rfl rfl
      have q114_ := hs_.val 11 rfl rfl rfl
      refine Rn.val fun K_ hK_ => ?_
      go_simp
      exact hK_.out _ (Ext.refl _)
    refine RnL.cons (fun g12 A_ W_ hs_ => ?_) ?_
    · have q115_ := hs_.val 12 rfl rfl rfl
      refine Rn.val fun K_ hK_ => ?_
      go_simp
      exact hK_.out _ (Ext.refl _)
    refine RnL.cons (fun g12 A_ W_ hs_ => ?_) ?_
    · have q10_ := (hs_.old 10 (by kernel_rfl) : A_.tmps[10]?.getD undef = .pointer (some ⟨w11.heap.size, 0, none⟩))
      have cB6_0 := ((HB6_12.out.drew.ext hs_.1)).cell 0 rfl
      have cB6_1 := ((HB6_12.out.drew.ext hs_.1)).cell 1 rfl
      refine Rn.val fun K_ hK_ => ?_
      go_simp
      exact hK_.out _ (Ext.refl _)
    refine RnL.cons (fun g12 A_ W_ hs_ => ?_) ?_
    · have q3_ := (hs_.old 3 (by kernel_rfl) : A_.tmps[3]?.getD undef = .pointer (some ⟨w.heap.size + 1, 0, none⟩))
      have cB1_0 := ((HB1_12.out.drew.ext hs_.1)).cell 0 rfl
      have cB1_1 := ((HB1_12.out.drew.ext hs_.1)).cell 1 rfl
      refine Rn.val fun K_ hK_ => ?_
      go_simp
      exact hK_.out _ (Ext.refl _)
    refine RnL.cons (fun g12 A_ W_ hs_ => ?_) ?_
    · have q117_ := hs_.val 14 rfl rfl rfl
      have q118_ := hs_.val 15 rfl rfl rfl
      refine Rn.val fun K_ hK_ => ?_
      go_simp
      exact hK_.out _ (Ext.refl _)
    refine RnL.cons (fun g12 A_ W_ hs_ => ?_) ?_
    · have q116_ := hs_.val 13 rfl rfl rfl
      have q119_ := hs_.val 16 rfl rfl rfl
      refine Rn.val fun K_ hK_ => ?_
      go_simp
      exact hK_.out _ (Ext.refl _)
    refine RnL.cons (fun g12 A_ W_ hs_ => ?_) ?_
    · have q120_ := hs_.val 17 rfl rfl rfl
      refine Rn.val fun K_ hK_ => ?_
      go_simp
      exact hK_.out _ (Ext.refl _)
    refine RnL.cons (fun g12 A_ W_ hs_ => ?_) ?_
    · have q11_ := (hs_.old 11 (by kernel_rfl) : A_.tmps[11]?.getD undef = .int .i64 0)
      refine Rn.val fun K_ hK_ => ?_
      go_simp
      exact hK_.out _ (Ext.refl _)
    refine RnL.cons (fun g12 A_ W_ hs_ => ?_) ?_
    · have q122_ := hs_.val 19 rfl rfl rfl
      refine Rn.val fun K_ hK_ => ?_
      go_simp
      exact hK_.out _ (Ext.refl _)
    refine RnL.cons (fun g12 A_ W_ hs_ => ?_) ?_
    · have q121_ := hs_.val 18 rfl rfl rfl
      have q123_ := hs_.val 20 rfl rfl rfl
      refine Rn.val fun K_ hK_ => ?_
      go_simp
      exact hK_.out _ (Ext.refl _)
    refine RnL.cons (fun g12 A_ W_ hs_ => ?_) ?_
    · have q124_ := hs_.val 21 rfl rfl rfl
      refine Rn.val fun K_ hK_ => ?_
      go_simp
      exact hK_.out _ (Ext.refl _)
    exact RnL.nil
  simp only [fs, Kd.value, puts, Act.put, List.setIfInBounds_toArray, List.set_cons_zero, List.set_cons_succ]
  have HX13 : Hid (Ext w w13) := Lib.hid (HX12.out.drew.trans hx_)
  clear hx_ hm_ hne_
  go_wp2
  go_ret
  exact ⟨rfl, HX13.out⟩

set_option maxRecDepth 100000 in
set_option maxHeartbeats 16000000 in
theorem grad15_ZE (n : V3) (a : T2) (w : World) (g : Gd w) (hsz : [qs n.x, qs n.y, qs n.z, a.x, a.y].all sz24 = true) (hn : VB 200 n) (hz : n.x = 0 ∧ n.y = 0 ∧ n.z = 0) (ha : a.l.all rq = false) : Calls Tryz.prog 6 #[.agg #[.string (qs n.x), .string (qs n.y), .string (qs n.z)], .agg #[.string a.x, .string a.y]] w (Ret w (.bool true)) := by
  have HN := Lib.hid hn
  have HZ := Lib.hid hz
  have HAW := Lib.hid ha
  have HG := Lib.hid g
  clear hn hz ha g
  have HSZ := Lib.hid hsz
  simp only [List.all_cons, List.all_nil, Bool.and_true, Bool.and_eq_true, sz24_true] at hsz
  obtain ⟨s0, s1, s2, s3, s4⟩ := hsz
  have HA : Hid (TS2 a) := Lib.hid ⟨(Nat.le_trans s3 (by decide)), (Nat.le_trans s4 (by decide))⟩
  have HRT : Hid ([a.x, a.y].all rq = false) := HAW
  have HL2 : Hid (∀ (i : Nat) (hi : i < [a.x, a.y].length), ([a.x, a.y][i]).size ≤ 1000000) := Lib.hid (sizes2 HA.out.x HA.out.y)
  clear s0 s1 s2 s3 s4
  go_enter Tryz.func6, Tryz.ntmps6
  go_wp2_with fail
  refine (known15_c _ (HG.out.ext (((Ext.refl w).alloc _).alloc _))).mono ?_; rintro e w1 ⟨rfl, e1⟩
  have HX1 : Hid (Ext w w1) := Lib.hid ((((Ext.refl w).alloc _).alloc _).trans e1)
  have HB0_1 : Hid (Blk w1 (w.heap.size) #[.string (qs n.x), .string (qs n.y), .string (qs n.z)] 37) := Lib.hid (Blk.ext ((Blk.new' (w := _) (cs := #[.string (qs n.x), .string (qs n.y), .string (qs n.z)]) (t := 37) (by first | rfl | (simp only [World.size_alloc]; done) | (simp only [World.size_alloc]; omega) | simp)).alloc _) e1)
  have HB1_1 : Hid (Blk w1 (w.heap.size + 1) #[.string a.x, .string a.y] 24) := Lib.hid (Blk.ext (Blk.new' (w := _) (cs := #[.string a.x, .string a.y]) (t := 24) (by first | rfl | (simp only [World.size_alloc]; done) | (simp only [World.size_alloc]; omega) | simp)) e1)
  have HGEB0 : Hid (w.heap.size ≤ w.heap.size) := Lib.hid (by first | omega | (simp only []; omega) | (simp; omega))
  have HGEB1 : Hid (w.heap.size ≤ w.heap.size + 1) := Lib.hid (by first | omega | (simp only []; omega) | (simp; omega))
  clear e1
  have c0_0 := HB0_1.out.cell 0 rfl
  have c0_1 := HB0_1.out.cell 1 rfl
  have c0_2 := HB0_1.out.cell 2 rfl
  have c1_0 := HB1_1.out.cell 0 rfl
  have c1_1 := HB1_1.out.cell 1 rfl
  go_wp2_with fail
  refine (short15_b [qs n.x, qs n.y, qs n.z, a.x, a.y] 5 (w1.heap.size) true _ rfl (by decide) HSZ.out (Blk.new' (w := _) (cs := #[.string (qs n.x), .string (qs n.y), .string (qs n.z), .string a.x, .string a.y]) (t := 22) (by first | rfl | (simp only [World.size_alloc]; done) | (simp only [World.size_alloc]; omega) | simp))).mono ?_; rintro e w2 ⟨rfl, e2⟩
  have HX2 : Hid (Ext w w2) := Lib.hid ((HX1.out.alloc _).trans e2)
  have HB0_2 : Hid (Blk w2 (w.heap.size) #[.string (qs n.x), .string (qs n.y), .string (qs n.z)] 37) := Lib.hid (Blk.ext (HB0_1.out.alloc _) e2)
  have HB1_2 : Hid (Blk w2 (w.heap.size + 1) #[.string a.x, .string a.y] 24) := Lib.hid (Blk.ext (HB1_1.out.alloc _) e2)
  have HB2_2 : Hid (Blk w2 (w1.heap.size) #[.string (qs n.x), .string (qs n.y), .string (qs n.z), .string a.x, .string a.y] 22) := Lib.hid (Blk.ext (Blk.new' (w := _) (cs := #[.string (qs n.x), .string (qs n.y), .string (qs n.z), .string a.x, .string a.y]) (t := 22) (by first | rfl | (simp only [World.size_alloc]; done) | (simp only [World.size_alloc]; omega) | simp)) e2)
  have HGEB2 : Hid (w.heap.size ≤ w1.heap.size) := Lib.hid (by have := HX1.out.size; first | omega | (simp only []; omega) | (simp; omega))
  clear e2 c0_0 c0_1 c0_2 c1_0 c1_1
  have c0_0 := HB0_2.out.cell 0 rfl
  have c0_1 := HB0_2.out.cell 1 rfl
  have c0_2 := HB0_2.out.cell 2 rfl
  go_wp2_with fail
  refine (agrad_z n _ (HG.out.ext HX2.out) HN.out HZ.out).mono ?_; rintro e w3 ⟨rfl, e3⟩
  have HX3 : Hid (Ext w w3) := Lib.hid (HX2.out.trans e3)
  have HB0_3 := Lib.hid (Blk.ext HB0_2.out e3)
  have HB1_3 := Lib.hid (Blk.ext HB1_2.out e3)
  clear e3 c0_0 c0_1 c0_2
  go_upto_region 4 with fail
  refine wp_name (fun W => Ext w W ∧ Blk W (w.heap.size) #[.string (qs n.x), .string (qs n.y), .string (qs n.z)] 37 ∧ Blk W (w.heap.size + 1) #[.string a.x, .string a.y] 24 ∧ Blk W (w3.heap.size) #[.string ⟨#[]⟩, .string ⟨#[]⟩] 24) ⟨(HX3.out.alloc _), (HB0_3.out.alloc _), (HB1_3.out.alloc _), (Blk.new' (w := _) (cs := #[.string ⟨#[]⟩, .string ⟨#[]⟩]) (t := 24) (by first | rfl | (simp only [World.size_alloc]; done) | (simp only [World.size_alloc]; omega) | simp))⟩ ?_
  rintro w4 ⟨e4, bB0_4, bB1_4, bB3_4⟩
  have HX4 := Lib.hid e4; have HB0_4 := Lib.hid bB0_4; have HB1_4 := Lib.hid bB1_4; have HB3_4 := Lib.hid bB3_4
  have HGEB3 : Hid (w.heap.size ≤ w3.heap.size) := Lib.hid (by have := HX3.out.size; first | omega | (simp only []; omega) | (simp; omega))
  clear e4 bB0_4 bB1_4 bB3_4
  have c1_0 := HB1_4.out.cell 0 rfl
  have c1_1 := HB1_4.out.cell 1 rfl
  go_wp2_with fail
  refine (anorm_e a _ (HG.out.ext HX4.out) HA.out (terr_2 HAW.out)).mono ?_; rintro e w5 ⟨rfl, e5⟩
  have HX5 : Hid (Ext w w5) := Lib.hid (HX4.out.trans e5)
  have HB0_5 := Lib.hid (Blk.ext HB0_4.out e5)
  have HB1_5 := Lib.hid (Blk.ext HB1_4.out e5)
  have HB3_5 := Lib.hid (Blk.ext HB3_4.out e5)
  clear e5 c1_0 c1_1
  go_upto_region 5 with fail
  refine wp_name (fun W => Ext w W ∧ Blk W (w.heap.size) #[.string (qs n.x), .string (qs n.y), .string (qs n.z)] 37 ∧ Blk W (w.heap.size + 1) #[.string a.x, .string a.y] 24 ∧ Blk W (w3.heap.size) #[.string ⟨#[]⟩, .string ⟨#[]⟩] 24 ∧ Blk W (w5.heap.size) #[.string ⟨#[]⟩, .string ⟨#[]⟩, .string ⟨#[]⟩] 37) ⟨(HX5.out.alloc _), (HB0_5.out.alloc _), (HB1_5.out.alloc _), (HB3_5.out.alloc _), (Blk.new' (w := _) (cs := #[.string ⟨#[]⟩, .string ⟨#[]⟩, .string ⟨#[]⟩]) (t := 37) (by first | rfl | (simp only [World.size_alloc]; done) | (simp only [World.size_alloc]; omega) | simp))⟩ ?_
  rintro w6 ⟨e6, bB0_6, bB1_6, bB3_6, bB4_6⟩
  have HX6 := Lib.hid e6; have HB0_6 := Lib.hid bB0_6; have HB1_6 := Lib.hid bB1_6; have HB3_6 := Lib.hid bB3_6; have HB4_6 := Lib.hid bB4_6
  have HGEB4 : Hid (w.heap.size ≤ w5.heap.size) := Lib.hid (by have := HX5.out.size; first | omega | (simp only []; omega) | (simp; omega))
  clear e6 bB0_6 bB1_6 bB3_6 bB4_6
  have c0_0 := HB0_6.out.cell 0 rfl
  have c0_1 := HB0_6.out.cell 1 rfl
  have c0_2 := HB0_6.out.cell 2 rfl
  go_wp2_with fail
  refine (lnorm_z n _ (HG.out.ext HX6.out) HN.out HZ.out.1 HZ.out.2.1 HZ.out.2.2).mono ?_; rintro e w7 ⟨rfl, e7⟩
  have HX7 : Hid (Ext w w7) := Lib.hid (HX6.out.trans e7)
  have HB1_7 := Lib.hid (Blk.ext HB1_6.out e7)
  have HB3_7 := Lib.hid (Blk.ext HB3_6.out e7)
  have HB4_7 := Lib.hid (Blk.ext HB4_6.out e7)
  clear e7 c0_0 c0_1 c0_2
  have c3_0 := HB3_7.out.cell 0 rfl
  have c3_1 := HB3_7.out.cell 1 rfl
  go_wp2_with fail
  refine wp_name (fun W => Ext w W ∧ Blk W (w.heap.size + 1) #[.string a.x, .string a.y] 24 ∧ Blk W (w5.heap.size) #[.string ⟨#[]⟩, .string ⟨#[]⟩, .string ⟨#[]⟩] 37) ⟨HX7.out, HB1_7.out, HB4_7.out⟩ ?_
  rintro w8 ⟨e8, bB1_8, bB4_8⟩
  have HX8 := Lib.hid e8; have HB1_8 := Lib.hid bB1_8; have HB4_8 := Lib.hid bB4_8
  clear e8 bB1_8 bB4_8 c3_0 c3_1
  refine region_lin [.val (.int .i64 17), .val (.bool false), .val (.bool false), .off, .off, .off, .off, .off, .off, .off, .off, .off, .off, .off, .off, .off, .off, .off, .off, .off, .off, .off, .val (.bool false)] (by kernel_rfl) (by kernel_rfl) (by kernel_rfl) ?_ (fun g8 w9 hx_ hm_ hne_ => ?_)
  · skip
    refine RnL.cons (fun g8 A_ W_ hs_ => ?_) ?_
    · have q9_ := (hs_.old 9 (by kernel_rfl) : A_.tmps[9]?.getD undef = .int .i64 17)
      refine Rn.val fun K_ hK_ => ?_
      go_simp
      exact hK_.out _ (Ext.refl _)
    refine RnL.cons (fun g8 A_ W_ hs_ => ?_) ?_
    · have q61_ := hs_.val 0 rfl rfl rfl
      refine Rn.val fun K_ hK_ => ?_
      go_simp
      exact hK_.out _ (Ext.refl _)
    refine RnL.cons (fun g8 A_ W_ hs_ => ?_) ?_
    · have q62_ := hs_.val 1 rfl rfl rfl
      refine Rn.val fun K_ hK_ => ?_
      go_simp
      exact hK_.out _ (Ext.refl _)
    refine RnL.cons (fun g8 A_ W_ hs_ => ?_) ?_
    · exact Rn.off
    refine RnL.cons (fun g8 A_ W_ hs_ => ?_) ?_
    · exact Rn.off
    refine RnL.cons (fun g8 A_ W_ hs_ => ?_) ?_
    · exact Rn.off
    refine RnL.cons (fun g8 A_ W_ hs_ => ?_) ?_
    · exact Rn.off
    refine RnL.cons (fun g8 A_ W_ hs_ => ?_) ?_
    · exact Rn.off
    refine RnL.cons (fun g8 A_ W_ hs_ => ?_) ?_
    · exact Rn.off
    refine RnL.cons (fun g8 A_ W_ hs_ => ?_) ?_
    · exact Rn.off
    refine RnL.cons (fun g8 A_ W_ hs_ => ?_) ?_
    · exact Rn.off
    refine RnL.cons (fun g8 A_ W_ hs_ => ?_) ?_
    · exact Rn.off
    refine RnL.cons (fun g8 A_ W_ hs_ => ?_) ?_
    · exact Rn.off
    refine RnL.cons (fun g8 A_ W_ hs_ => ?_) ?_
    · exact Rn.off
    refine RnL.cons (fun g8 A_ W_ hs_ => ?_) ?_
    · exact Rn.off
    refine RnL.cons (fun g8 A_ W_ hs_ => ?_) ?_
    · exact Rn.off
    refine RnL.cons (fun g8 A_ W_ hs_ => ?_) ?_
    · exact Rn.off
    refine RnL.cons (fun g8 A_ W_ hs_ => ?_) ?_
    · exact Rn.off
    refine RnL.cons (fun g8 A_ W_ hs_ => ?_) ?_
    · exact Rn.off
    refine RnL.cons (fun g8 A_ W_ hs_ => ?_) ?_
    · exact Rn.off
    refine RnL.cons (fun g8 A_ W_ hs_ => ?_) ?_
    · exact Rn.off
    refine RnL.cons (fun g8 A_ W_ hs_ => ?_) ?_
    · exact Rn.off
    refine RnL.cons (fun g8 A_ W_ hs_ => ?_) ?_
    · have q63_ := hs_.val 2 rfl rfl rfl
      have q82_ := hs_.un 21 rfl rfl rfl
      refine Rn.val fun K_ hK_ => ?_
      go_simp
      exact hK_.out _ (Ext.refl _)
    exact RnL.nil
  simp only [fs, Kd.value, puts, Act.put, List.setIfInBounds_toArray, List.set_cons_zero, List.set_cons_succ]
  have HX9 : Hid (Ext w w9) := Lib.hid (HX8.out.drew.trans hx_)
  have HB1_9 := Lib.hid (HB1_8.out.drew.ext hx_)
  have HB4_9 := Lib.hid (HB4_8.out.drew.ext hx_)
  clear hx_ hm_ hne_
  have c1_0 := HB1_9.out.cell 0 rfl
  have c1_1 := HB1_9.out.cell 1 rfl
  go_wp2_with fail
  refine (right15_b [a.x, a.y] 2 (w9.heap.size) false _ (HG.out.ext (HX9.out.alloc _)) rfl (by decide) HL2.out HRT.out (Blk.new' (w := _) (cs := #[.string a.x, .string a.y]) (t := 22) (by first | rfl | (simp only [World.size_alloc]; done) | (simp only [World.size_alloc]; omega) | simp))).mono ?_; rintro e w10 ⟨rfl, e10⟩
  have HX10 : Hid (Ext w w10) := Lib.hid ((HX9.out.alloc _).trans e10)
  have HB4_10 : Hid (Blk w10 (w5.heap.size) #[.string ⟨#[]⟩, .string ⟨#[]⟩, .string ⟨#[]⟩] 37) := Lib.hid (Blk.ext (HB4_9.out.alloc _) e10)
  have HB5_10 : Hid (Blk w10 (w9.heap.size) #[.string a.x, .string a.y] 22) := Lib.hid (Blk.ext (Blk.new' (w := _) (cs := #[.string a.x, .string a.y]) (t := 22) (by first | rfl | (simp only [World.size_alloc]; done) | (simp only [World.size_alloc]; omega) | simp)) e10)
  have HGEB5 : Hid (w.heap.size ≤ w9.heap.size) := Lib.hid (by have := HX9.out.size; first | omega | (simp only []; omega) | (simp; omega))
  clear e10 c1_0 c1_1
  have c4_0 := HB4_10.out.cell 0 rfl
  have c4_1 := HB4_10.out.cell 1 rfl
  have c4_2 := HB4_10.out.cell 2 rfl
  go_wp2
  go_ret
  exact ⟨rfl, HX10.out⟩

set_option maxRecDepth 100000 in
set_option maxHeartbeats 16000000 in
theorem grad15_ZR (n : V3) (a : P2) (w : World) (g : Gd w) (hsz : [qs n.x, qs n.y, qs n.z, qs a.x, qs a.y].all sz24 = true) (hn : VB 200 n) (hz : n.x = 0 ∧ n.y = 0 ∧ n.z = 0) : Calls Tryz.prog 6 #[.agg #[.string (qs n.x), .string (qs n.y), .string (qs n.z)], .agg #[.string (qs a.x), .string (qs a.y)]] w (Ret w (.bool true)) := by
  have HN := Lib.hid hn
  have HZ := Lib.hid hz
  have HG := Lib.hid g
  clear hn hz g
  have HSZ := Lib.hid hsz
  simp only [List.all_cons, List.all_nil, Bool.and_true, Bool.and_eq_true, sz24_true] at hsz
  obtain ⟨s0, s1, s2, s3, s4⟩ := hsz
  have HA4 : Hid (PB 24 a) := Lib.hid ⟨qb_of_size s3, qb_of_size s4⟩; have HA2 : Hid (PB 200 a) := Lib.hid (HA4.out.mono (by decide))
  have HRT : Hid ([qs a.x, qs a.y].all rq = true) := Lib.hid HA2.out.all
  have HL2 : Hid (∀ (i : Nat) (hi : i < [qs a.x, qs a.y].length), ([qs a.x, qs a.y][i]).size ≤ 1000000) := Lib.hid (sizes2 HA2.out.ts.x HA2.out.ts.y)
  clear s0 s1 s2 s3 s4
  go_enter Tryz.func6, Tryz.ntmps6
  go_wp2_with fail
  refine (known15_c _ (HG.out.ext (((Ext.refl w).alloc _).alloc _))).mono ?_; rintro e w1 ⟨rfl, e1⟩
  have HX1 : Hid (Ext w w1) := Lib.hid ((((Ext.refl w).alloc _).alloc _).trans e1)
  have HB0_1 : Hid (Blk w1 (w.heap.size) #[.string (qs n.x), .string (qs n.y), .string (qs n.z)] 37) := Lib.hid (Blk.ext ((Blk.new' (w := _) (cs := #[.string (qs n.x), .string (qs n.y), .string (qs n.z)]) (t := 37) (by first | rfl | (simp only [World.size_alloc]; done) | (simp only [World.size_alloc]; omega) | simp)).alloc _) e1)
  have HB1_1 : Hid (Blk w1 (w.heap.size + 1) #[.string (qs a.x), .string (qs a.y)] 24) := Lib.hid (Blk.ext (Blk.new' (w := _) (cs := #[.string (qs a.x), .string (qs a.y)]) (t := 24) (by first | rfl | (simp only [World.size_alloc]; done) | (simp only [World.size_alloc]; omega) | simp)) e1)
  have HGEB0 : Hid (w.heap.size ≤ w.heap.size) := Lib.hid (by first | omega | (simp only []; omega) | (simp; omega))
  have HGEB1 : Hid (w.heap.size ≤ w.heap.size + 1) := Lib.hid (by first | omega | (simp only []; omega) | (simp; omega))
  clear e1
  have c0_0 := HB0_1.out.cell 0 rfl
  have c0_1 := HB0_1.out.cell 1 rfl
  have c0_2 := HB0_1.out.cell 2 rfl
  have c1_0 := HB1_1.out.cell 0 rfl
  have c1_1 := HB1_1.out.cell 1 rfl
  go_wp2_with fail
  refine (short15_b [qs n.x, qs n.y, qs n.z, qs a.x, qs a.y] 5 (w1.heap.size) true _ rfl (by decide) HSZ.out (Blk.new' (w := _) (cs := #[.string (qs n.x), .string (qs n.y), .string (qs n.z), .string (qs a.x), .string (qs a.y)]) (t := 22) (by first | rfl | (simp only [World.size_alloc]; done) | (simp only [World.size_alloc]; omega) | simp))).mono ?_; rintro e w2 ⟨rfl, e2⟩
  have HX2 : Hid (Ext w w2) := Lib.hid ((HX1.out.alloc _).trans e2)
  have HB0_2 : Hid (Blk w2 (w.heap.size) #[.string (qs n.x), .string (qs n.y), .string (qs n.z)] 37) := Lib.hid (Blk.ext (HB0_1.out.alloc _) e2)
  have HB1_2 : Hid (Blk w2 (w.heap.size + 1) #[.string (qs a.x), .string (qs a.y)] 24) := Lib.hid (Blk.ext (HB1_1.out.alloc _) e2)
  have HB2_2 : Hid (Blk w2 (w1.heap.size) #[.string (qs n.x), .string (qs n.y), .string (qs n.z), .string (qs a.x), .string (qs a.y)] 22) := Lib.hid (Blk.ext (Blk.new' (w := _) (cs := #[.string (qs n.x), .string (qs n.y), .string (qs n.z), .string (qs a.x), .string (qs a.y)]) (t := 22) (by first | rfl | (simp only [World.size_alloc]; done) | (simp only [World.size_alloc]; omega) | simp)) e2)
  have HGEB2 : Hid (w.heap.size ≤ w1.heap.size) := Lib.hid (by have := HX1.out.size; first | omega | (simp only []; omega) | (simp; omega))
  clear e2 c0_0 c0_1 c0_2 c1_0 c1_1
  have c0_0 := HB0_2.out.cell 0 rfl
  have c0_1 := HB0_2.out.cell 1 rfl
  have c0_2 := HB0_2.out.cell 2 rfl
  go_wp2_with fail
  refine (agrad_z n _ (HG.out.ext HX2.out) HN.out HZ.out).mono ?_; rintro e w3 ⟨rfl, e3⟩
  have HX3 : Hid (Ext w w3) := Lib.hid (HX2.out.trans e3)
  have HB0_3 := Lib.hid (Blk.ext HB0_2.out e3)
  have HB1_3 := Lib.hid (Blk.ext HB1_2.out e3)
  clear e3 c0_0 c0_1 c0_2
  go_upto_region 4 with fail
  refine wp_name (fun W => Ext w W ∧ Blk W (w.heap.size) #[.string (qs n.x), .string (qs n.y), .string (qs n.z)] 37 ∧ Blk W (w.heap.size + 1) #[.string (qs a.x), .string (qs a.y)] 24 ∧ Blk W (w3.heap.size) #[.string ⟨#[]⟩, .string ⟨#[]⟩] 24) ⟨(HX3.out.alloc _), (HB0_3.out.alloc _), (HB1_3.out.alloc _), (Blk.new' (w := _) (cs := #[.string ⟨#[]⟩, .string ⟨#[]⟩]) (t := 24) (by first | rfl | (simp only [World.size_alloc]; done) | (simp only [World.size_alloc]; omega) | simp))⟩ ?_
  rintro w4 ⟨e4, bB0_4, bB1_4, bB3_4⟩
  have HX4 := Lib.hid e4; have HB0_4 := Lib.hid bB0_4; have HB1_4 := Lib.hid bB1_4; have HB3_4 := Lib.hid bB3_4
  have HGEB3 : Hid (w.heap.size ≤ w3.heap.size) := Lib.hid (by have := HX3.out.size; first | omega | (simp only []; omega) | (simp; omega))
  clear e4 bB0_4 bB1_4 bB3_4
  have c1_0 := HB1_4.out.cell 0 rfl
  have c1_1 := HB1_4.out.cell 1 rfl
  go_wp2_with fail
  refine (anorm_ok a _ (HG.out.ext HX4.out) HA2.out).mono ?_; rintro e w5 ⟨rfl, e5⟩
  have HX5 : Hid (Ext w w5) := Lib.hid (HX4.out.trans e5)
  have HB0_5 := Lib.hid (Blk.ext HB0_4.out e5)
  have HB1_5 := Lib.hid (Blk.ext HB1_4.out e5)
  have HB3_5 := Lib.hid (Blk.ext HB3_4.out e5)
  clear e5 c1_0 c1_1
  go_upto_region 5 with fail
  refine wp_name (fun W => Ext w W ∧ Blk W (w.heap.size) #[.string (qs n.x), .string (qs n.y), .string (qs n.z)] 37 ∧ Blk W (w.heap.size + 1) #[.string (qs a.x), .string (qs a.y)] 24 ∧ Blk W (w3.heap.size) #[.string ⟨#[]⟩, .string ⟨#[]⟩] 24 ∧ Blk W (w5.heap.size) #[.string (qs (-a.x)), .string (qs (-a.y)), .string ⟨#[49]⟩] 37) ⟨(HX5.out.alloc _), (HB0_5.out.alloc _), (HB1_5.out.alloc _), (HB3_5.out.alloc _), (Blk.new' (w := _) (cs := #[.string (qs (-a.x)), .string (qs (-a.y)), .string ⟨#[49]⟩]) (t := 37) (by first | rfl | (simp only [World.size_alloc]; done) | (simp only [World.size_alloc]; omega) | simp))⟩ ?_
  rintro w6 ⟨e6, bB0_6, bB1_6, bB3_6, bB4_6⟩
  have HX6 := Lib.hid e6; have HB0_6 := Lib.hid bB0_6; have HB1_6 := Lib.hid bB1_6; have HB3_6 := Lib.hid bB3_6; have HB4_6 := Lib.hid bB4_6
  have HGEB4 : Hid (w.heap.size ≤ w5.heap.size) := Lib.hid (by have := HX5.out.size; first | omega | (simp only []; omega) | (simp; omega))
  clear e6 bB0_6 bB1_6 bB3_6 bB4_6
  have c0_0 := HB0_6.out.cell 0 rfl
  have c0_1 := HB0_6.out.cell 1 rfl
  have c0_2 := HB0_6.out.cell 2 rfl
  go_wp2_with fail
  refine (lnorm_z n _ (HG.out.ext HX6.out) HN.out HZ.out.1 HZ.out.2.1 HZ.out.2.2).mono ?_; rintro e w7 ⟨rfl, e7⟩
  have HX7 : Hid (Ext w w7) := Lib.hid (HX6.out.trans e7)
  have HB1_7 := Lib.hid (Blk.ext HB1_6.out e7)
  have HB3_7 := Lib.hid (Blk.ext HB3_6.out e7)
  have HB4_7 := Lib.hid (Blk.ext HB4_6.out e7)
  clear e7 c0_0 c0_1 c0_2
  have c3_0 := HB3_7.out.cell 0 rfl
  have c3_1 := HB3_7.out.cell 1 rfl
  go_wp2_with fail
  refine wp_name (fun W => Ext w W ∧ Blk W (w.heap.size + 1) #[.string (qs a.x), .string (qs a.y)] 24 ∧ Blk W (w5.heap.size) #[.string (qs (-a.x)), .string (qs (-a.y)), .string ⟨#[49]⟩] 37) ⟨HX7.out, HB1_7.out, HB4_7.out⟩ ?_
  rintro w8 ⟨e8, bB1_8, bB4_8⟩
  have HX8 := Lib.hid e8; have HB1_8 := Lib.hid bB1_8; have HB4_8 := Lib.hid bB4_8
  clear e8 bB1_8 bB4_8 c3_0 c3_1
  refine region_lin [.val (.int .i64 17), .val (.bool false), .val (.bool false), .off, .off, .off, .off, .off, .off, .off, .off, .off, .off, .off, .off, .off, .off, .off, .off, .off, .off, .off, .val (.bool false)] (by kernel_rfl) (by kernel_rfl) (by kernel_rfl) ?_ (fun g8 w9 hx_ hm_ hne_ => ?_)
  · skip
    refine RnL.cons (fun g8 A_ W_ hs_ => ?_) ?_
    · have q9_ := (hs_.old 9 (by kernel_rfl) : A_.tmps[9]?.getD undef = .int .i64 17)
      refine Rn.val fun K_ hK_ => ?_
      go_simp
      exact hK_.out _ (Ext.refl _)
    refine RnL.cons (fun g8 A_ W_ hs_ => ?_) ?_
    · have q61_ := hs_.val 0 rfl rfl rfl
      refine Rn.val fun K_ hK_ => ?_
      go_simp
      exact hK_.out _ (Ext.refl _)
    refine RnL.cons (fun g8 A_ W_ hs_ => ?_) ?_
    · have q62_ := hs_.val 1 rfl rfl rfl
      refine Rn.val fun K_ hK_ => ?_
      go_simp
      exact hK_.out _ (Ext.refl _)
    refine RnL.cons (fun g8 A_ W_ hs_ => ?_) ?_
    · exact Rn.off
    refine RnL.cons (fun g8 A_ W_ hs_ => ?_) ?_
    · exact Rn.off
    refine RnL.cons (fun g8 A_ W_ hs_ => ?_) ?_
    · exact Rn.off
    refine RnL.cons (fun g8 A_ W_ hs_ => ?_) ?_
    · exact Rn.off
    refine RnL.cons (fun g8 A_ W_ hs_ => ?_) ?_
    · exact Rn.off
    refine RnL.cons (fun g8 A_ W_ hs_ => ?_) ?_
    · exact Rn.off
    refine RnL.cons (fun g8 A_ W_ hs_ => ?_) ?_
    · exact Rn.off
    refine RnL.cons (fun g8 A_ W_ hs_ => ?_) ?_
    · exact Rn.off
    refine RnL.cons (fun g8 A_ W_ hs_ => ?_) ?_
    · exact Rn.off
    refine RnL.cons (fun g8 A_ W_ hs_ => ?_) ?_
    · exact Rn.off
    refine RnL.cons (fun g8 A_ W_ hs_ => ?_) ?_
    · exact Rn.off
    refine RnL.cons (fun g8 A_ W_ hs_ => ?_) ?_
    · exact Rn.off
    refine RnL.cons (fun g8 A_ W_ hs_ => ?_) ?_
    · exact Rn.off
    refine RnL.cons (fun g8 A_ W_ hs_ => ?_) ?_
    · exact Rn.off
    refine RnL.cons (fun g8 A_ W_ hs_ => ?_) ?_
    · exact Rn.off
    refine RnL.cons (fun g8 A_ W_ hs_ => ?_) ?_
    · exact Rn.off
    refine RnL.cons (fun g8 A_ W_ hs_ => ?_) ?_
    · exact Rn.off
    refine RnL.cons (fun g8 A_ W_ hs_ => ?_) ?_
    · exact Rn.off
    refine RnL.cons (fun g8 A_ W_ hs_ => ?_) ?_
    · exact Rn.off
    refine RnL.cons (fun g8 A_ W_ hs_ => ?_) ?_
    · have q63_ := hs_.val 2 rfl rfl rfl
      have q82_ := hs_.un 21 rfl rfl rfl
      refine Rn.val fun K_ hK_ => ?_
      go_simp
      exact hK_.out _ (Ext.refl _)
    exact RnL.nil
  simp only [fs, Kd.value, puts, Act.put, List.setIfInBounds_toArray, List.set_cons_zero, List.set_cons_succ]
  have HX9 : Hid (Ext w w9) := Lib.hid (HX8.out.drew.trans hx_)
  have HB1_9 := Lib.hid (HB1_8.out.drew.ext hx_)
  have HB4_9 := Lib.hid (HB4_8.out.drew.ext hx_)
  clear hx_ hm_ hne_
  have c1_0 := HB1_9.out.cell 0 rfl
  have c1_1 := HB1_9.out.cell 1 rfl
  go_wp2_with fail
  refine (right15_b [qs a.x, qs a.y] 2 (w9.heap.size) true _ (HG.out.ext (HX9.out.alloc _)) rfl (by decide) HL2.out HRT.out (Blk.new' (w := _) (cs := #[.string (qs a.x), .string (qs a.y)]) (t := 22) (by first | rfl | (simp only [World.size_alloc]; done) | (simp only [World.size_alloc]; omega) | simp))).mono ?_; rintro e w10 ⟨rfl, e10⟩
  have HX10 : Hid (Ext w w10) := Lib.hid ((HX9.out.alloc _).trans e10)
  have HB1_10 : Hid (Blk w10 (w.heap.size + 1) #[.string (qs a.x), .string (qs a.y)] 24) := Lib.hid (Blk.ext (HB1_9.out.alloc _) e10)
  have HB4_10 : Hid (Blk w10 (w5.heap.size) #[.string (qs (-a.x)), .string (qs (-a.y)), .string ⟨#[49]⟩] 37) := Lib.hid (Blk.ext (HB4_9.out.alloc _) e10)
  have HB5_10 : Hid (Blk w10 (w9.heap.size) #[.string (qs a.x), .string (qs a.y)] 22) := Lib.hid (Blk.ext (Blk.new' (w := _) (cs := #[.string (qs a.x), .string (qs a.y)]) (t := 22) (by first | rfl | (simp only [World.size_alloc]; done) | (simp only [World.size_alloc]; omega) | simp)) e10)
  have HGEB5 : Hid (w.heap.size ≤ w9.heap.size) := Lib.hid (by have := HX9.out.size; first | omega | (simp only []; omega) | (simp; omega))
  clear e10 c1_0 c1_1
  have c4_0 := HB4_10.out.cell 0 rfl
  have c4_1 := HB4_10.out.cell 1 rfl
  have c4_2 := HB4_10.out.cell 2 rfl
  go_wp2_with fail
  refine (grad_back a _ (HG.out.ext HX10.out) HA4.out).mono ?_; rintro e w11 ⟨rfl, e11⟩
  have HX11 : Hid (Ext w w11) := Lib.hid (HX10.out.trans e11)
  have HB1_11 := Lib.hid (Blk.ext HB1_10.out e11)
  have HB4_11 := Lib.hid (Blk.ext HB4_10.out e11)
  clear e11 c4_0 c4_1 c4_2
  go_wp2_with fail
  refine wp_name (fun W => Ext w W ∧ Blk W (w.heap.size + 1) #[.string (qs a.x), .string (qs a.y)] 24 ∧ Blk W (w5.heap.size) #[.string (qs (-a.x)), .string (qs (-a.y)), .string ⟨#[49]⟩] 37 ∧ Blk W (w11.heap.size) #[.string (qs a.x), .string (qs a.y)] 24) ⟨(HX11.out.alloc _), (HB1_11.out.alloc _), (HB4_11.out.alloc _), (Blk.new' (w := _) (cs := #[.string (qs a.x), .string (qs a.y)]) (t := 24) (by first | rfl | (simp only [World.size_alloc]; done) | (simp only [World.size_alloc]; omega) | simp))⟩ ?_
  rintro w12 ⟨e12, bB1_12, bB4_12, bB6_12⟩
  have HX12 := Lib.hid e12; have HB1_12 := Lib.hid bB1_12; have HB4_12 := Lib.hid bB4_12; have HB6_12 := Lib.hid bB6_12
  have HGEB6 : Hid (w.heap.size ≤ w11.heap.size) := Lib.hid (by have := HX11.out.size; first | omega | (simp only []; omega) | (simp; omega))
  clear e12 bB1_12 bB4_12 bB6_12
  refine region_lin [.val (.agg #[.string (qs (-a.x)), .string (qs (-a.y)), .string ⟨#[49]⟩]), .val (.pointer (some ⟨w.heap.size + 1, 0, none⟩)), .val (.string (qs a.x)), .val (.string (qs (-a.x))), .val (.pointer (some ⟨w.heap.size + 1, 1, none⟩)), .val (.string (qs a.y)), .val (.string (qs (-a.y))), .val (.agg #[.string (qs (-a.x)), .string (qs (-a.y)), .string ⟨#[49]⟩]), .val (.bool true), .val (.bool true), .val (.int .i64 0), .val (.bool true), .val (.bool true), .val (.bool true), .val (.agg #[.string (qs a.x), .string (qs a.y)]), .val (.agg #[.string (qs a.x), .string (qs a.y)]), .val (.bool true), .val (.bool true), .val (.bool true), .val (.int .i64 0), .val (.bool true), .val (.bool true), .val (.bool true)] (by kernel_rfl) (by kernel_rfl) (by kernel_rfl) ?_ (fun g12 w13 hx_ hm_ hne_ => ?_)
  · skip
    refine RnL.cons (fun g12 A_ W_ hs_ => ?_) ?_
    · have q7_ := (hs_.old 7 (by kernel_rfl) : A_.tmps[7]?.getD undef = .pointer (some ⟨w5.heap.size, 0, none⟩))
      have cB4_0 := ((HB4_12.out.drew.ext hs_.1)).cell 0 rfl
      have cB4_1 := ((HB4_12.out.drew.ext hs_.1)).cell 1 rfl
      have cB4_2 := ((HB4_12.out.drew.ext hs_.1)).cell 2 rfl
      refine Rn.val fun K_ hK_ => ?_
      go_simp
      exact hK_.out _ (Ext.refl _)
    refine RnL.cons (fun g12 A_ W_ hs_ => ?_) ?_
    · have q3_ := (hs_.old 3 (by kernel_rfl) : A_.tmps[3]?.getD undef = .pointer (some ⟨w.heap.size + 1, 0, none⟩))
      refine Rn.val fun K_ hK_ => ?_
      go_simp
      exact hK_.out _ (Ext.refl _)
    refine RnL.cons (fun g12 A_ W_ hs_ => ?_) ?_
    · have q104_ := hs_.val 1 rfl rfl rfl
      have cB1_0 := ((HB1_12.out.drew.ext hs_.1)).cell 0 rfl
      refine Rn.val fun K_ hK_ => ?_
      go_simp
      exact hK_.out _ (Ext.refl _)
    refine RnL.cons (fun g12 A_ W_ hs_ => ?_) ?_
    · have q105_ := hs_.val 2 rfl rfl rfl
      refine Rn.val fun K_ hK_ => ?_
      go_simp
      refine (rneg_c a.x _ HA4.out.x (by omega)).mono ?_; rintro e W9_ ⟨rfl, e9_⟩; exact hK_.out _ e9_
    refine RnL.cons (fun g12 A_ W_ hs_ => ?_) ?_
    · have q3_ := (hs_.old 3 (by kernel_rfl) : A_.tmps[3]?.getD undef = .pointer (some ⟨w.heap.size + 1, 0, none⟩))
      refine Rn.val fun K_ hK_ => ?_
      go_simp
      exact hK_.out _ (Ext.refl _)
    refine RnL.cons (fun g12 A_ W_ hs_ => ?_) ?_
    · have q107_ := hs_.val 4 rfl rfl rfl
      have cB1_1 := ((HB1_12.out.drew.ext hs_.1)).cell 1 rfl
      refine Rn.val fun K_ hK_ => ?_
      go_simp
      exact hK_.out _ (Ext.refl _)
    refine RnL.cons (fun g12 A_ W_ hs_ => ?_) ?_
    · have q108_ := hs_.val 5 rfl rfl rfl
      refine Rn.val fun K_ hK_ => ?_
      go_simp
      refine (rneg_c a.y _ HA4.out.y (by omega)).mono ?_; rintro e W9_ ⟨rfl, e9_⟩; exact hK_.out _ e9_
    refine RnL.cons (fun g12 A_ W_ hs_ => ?_) ?_
    · have q106_ := hs_.val 3 rfl rfl rfl
      have q109_ := hs_.val 6 rfl rfl rfl
      refine Rn.val fun K_ hK_ => ?_
      go_simp
      exact hK_.out _ (Ext.refl _)
    refine RnL.cons (fun g12 A_ W_ hs_ => ?_) ?_
    · have q103_ := hs_.val 0 rfl rfl rfl
      have q110_ := hs_.val 7 rfl rfl rfl
      refine Rn.val fun K_ hK_ => ?_
      go_simp
      exact hK_.out _ (Ext.refl _)
    refine RnL.cons (fun g12 A_ W_ hs_ => ?_) ?_
    · have q111_ := hs_.val 8 rfl rfl rfl
      refine Rn.val fun K_ hK_ => ?_
      go_simp
      exact hK_.out _ (Ext.refl _)
    refine RnL.cons (fun g12 A_ W_ hs_ => ?_) ?_
    · have q8_ := (hs_.old 8 (by kernel_rfl) : A_.tmps[8]?.getD undef = .int .i64 0)
      refine Rn.val fun K_ hK_ => ?_
      go_simp
      exact hK_.out _ (Ext.refl _)
    refine RnL.cons (fun g12 A_ W_ hs_ => ?_) ?_
    · have q113_ := hs_.val 10 rfl rfl rfl
      refine Rn.val fun K_ hK_ => ?_
      go_simp
      exact hK_.out _ (Ext.refl _)
    refine RnL.cons (fun g12 A_ W_ hs_ => ?_) ?_
    · have q112_ := hs_.val 9 rfl rfl rfl
      have q114_ := hs_.val 11 rfl rfl rfl
      refine Rn.val fun K_ hK_ => ?_
      go_simp
      exact hK_.out _ (Ext.refl _)
    refine RnL.cons (fun g12 A_ W_ hs_ => ?_) ?_
    · have q115_ := hs_.val 12 rfl rfl rfl
      refine Rn.val fun K_ hK_ => ?_
      go_simp
      exact hK_.out _ (Ext.refl _)
    refine RnL.cons (fun g12 A_ W_ hs_ => ?_) ?_
    · have q10_ := (hs_.old 10 (by kernel_rfl) : A_.tmps[10]?.getD undef = .pointer (some ⟨w11.heap.size, 0, none⟩))
      have cB6_0 := ((HB6_12.out.drew.ext hs_.1)).cell 0 rfl
      have cB6_1 := ((HB6_12.out.drew.ext hs_.1)).cell 1 rfl
      refine Rn.val fun K_ hK_ => ?_
      go_simp
      exact hK_.out _ (Ext.refl _)
    refine RnL.cons (fun g12 A_ W_ hs_ => ?_) ?_
    · have q3_ := (hs_.old 3 (by kernel_rfl) : A_.tmps[3]?.getD undef = .pointer (some ⟨w.heap.size + 1, 0, none⟩))
      have cB1_0 := ((HB1_12.out.drew.ext hs_.1)).cell 0 rfl
      have cB1_1 := ((HB1_12.out.drew.ext hs_.1)).cell 1 rfl
      refine Rn.val fun K_ hK_ => ?_
      go_simp
      exact hK_.out _ (Ext.refl _)
    refine RnL.cons (fun g12 A_ W_ hs_ => ?_) ?_
    · have q117_ := hs_.val 14 rfl rfl rfl
      have q118_ := hs_.val 15 rfl rfl rfl
      refine Rn.val fun K_ hK_ => ?_
      go_simp
      exact hK_.out _ (Ext.refl _)
    refine RnL.cons (fun g12 A_ W_ hs_ => ?_) ?_
    · have q116_ := hs_.val 13 rfl rfl rfl
      have q119_ := hs_.val 16 rfl rfl rfl
      refine Rn.val fun K_ hK_ => ?_
      go_simp
      exact hK_.out _ (Ext.refl _)
    refine RnL.cons (fun g12 A_ W_ hs_ => ?_) ?_
    · have q120_ := hs_.val 17 rfl rfl rfl
      refine Rn.val fun K_ hK_ => ?_
      go_simp
      exact hK_.out _ (Ext.refl _)
    refine RnL.cons (fun g12 A_ W_ hs_ => ?_) ?_
    · have q11_ := (hs_.old 11 (by kernel_rfl) : A_.tmps[11]?.getD undef = .int .i64 0)
      refine Rn.val fun K_ hK_ => ?_
      go_simp
      exact hK_.out _ (Ext.refl _)
    refine RnL.cons (fun g12 A_ W_ hs_ => ?_) ?_
    · have q122_ := hs_.val 19 rfl rfl rfl
      refine Rn.val fun K_ hK_ => ?_
      go_simp
      exact hK_.out _ (Ext.refl _)
    refine RnL.cons (fun g12 A_ W_ hs_ => ?_) ?_
    · have q121_ := hs_.val 18 rfl rfl rfl
      have q123_ := hs_.val 20 rfl rfl rfl
      refine Rn.val fun K_ hK_ => ?_
      go_simp
      exact hK_.out _ (Ext.refl _)
    refine RnL.cons (fun g12 A_ W_ hs_ => ?_) ?_
    · have q124_ := hs_.val 21 rfl rfl rfl
      refine Rn.val fun K_ hK_ => ?_
      go_simp
      exact hK_.out _ (Ext.refl _)
    exact RnL.nil
  simp only [fs, Kd.value, puts, Act.put, List.setIfInBounds_toArray, List.set_cons_zero, List.set_cons_succ]
  have HX13 : Hid (Ext w w13) := Lib.hid (HX12.out.drew.trans hx_)
  clear hx_ hm_ hne_
  go_wp2
  go_ret
  exact ⟨rfl, HX13.out⟩

set_option maxRecDepth 100000 in
set_option maxHeartbeats 16000000 in
theorem grad15_UE (n : V3) (a : T2) (w : World) (g : Gd w) (hsz : [qs n.x, qs n.y, qs n.z, a.x, a.y].all sz24 = true) (hn : VB 200 n) (hz : ¬ (n.x = 0 ∧ n.y = 0 ∧ n.z = 0)) (ha : a.l.all rq = false) (h0 : n.z = 0) : Calls Tryz.prog 6 #[.agg #[.string (qs n.x), .string (qs n.y), .string (qs n.z)], .agg #[.string a.x, .string a.y]] w (Ret w (.bool true)) := by
  have HN := Lib.hid hn
  have HZ := Lib.hid hz
  have HAW := Lib.hid ha
  have HG := Lib.hid g
  clear hn hz ha g
  have HSZ := Lib.hid hsz
  simp only [List.all_cons, List.all_nil, Bool.and_true, Bool.and_eq_true, sz24_true] at hsz
  obtain ⟨s0, s1, s2, s3, s4⟩ := hsz
  have HN4 : Hid (VB 24 n) := Lib.hid ⟨qb_of_size s0, qb_of_size s1, qb_of_size s2⟩
  have HA : Hid (TS2 a) := Lib.hid ⟨(Nat.le_trans s3 (by decide)), (Nat.le_trans s4 (by decide))⟩
  have HRT : Hid ([a.x, a.y].all rq = false) := HAW
  have HL2 : Hid (∀ (i : Nat) (hi : i < [a.x, a.y].length), ([a.x, a.y][i]).size ≤ 1000000) := Lib.hid (sizes2 HA.out.x HA.out.y)
  clear s0 s1 s2 s3 s4
  have h0_t := qs_is0 h0
  have H0 := Lib.hid h0; clear h0
  go_enter Tryz.func6, Tryz.ntmps6
  go_wp2_with fail
  refine (known15_c _ (HG.out.ext (((Ext.refl w).alloc _).alloc _))).mono ?_; rintro e w1 ⟨rfl, e1⟩
  have HX1 : Hid (Ext w w1) := Lib.hid ((((Ext.refl w).alloc _).alloc _).trans e1)
  have HB0_1 : Hid (Blk w1 (w.heap.size) #[.string (qs n.x), .string (qs n.y), .string (qs n.z)] 37) := Lib.hid (Blk.ext ((Blk.new' (w := _) (cs := #[.string (qs n.x), .string (qs n.y), .string (qs n.z)]) (t := 37) (by first | rfl | (simp only [World.size_alloc]; done) | (simp only [World.size_alloc]; omega) | simp)).alloc _) e1)
  have HB1_1 : Hid (Blk w1 (w.heap.size + 1) #[.string a.x, .string a.y] 24) := Lib.hid (Blk.ext (Blk.new' (w := _) (cs := #[.string a.x, .string a.y]) (t := 24) (by first | rfl | (simp only [World.size_alloc]; done) | (simp only [World.size_alloc]; omega) | simp)) e1)
  have HGEB0 : Hid (w.heap.size ≤ w.heap.size) := Lib.hid (by first | omega | (simp only []; omega) | (simp; omega))
  have HGEB1 : Hid (w.heap.size ≤ w.heap.size + 1) := Lib.hid (by first | omega | (simp only []; omega) | (simp; omega))
  clear e1
  have c0_0 := HB0_1.out.cell 0 rfl
  have c0_1 := HB0_1.out.cell 1 rfl
  have c0_2 := HB0_1.out.cell 2 rfl
  have c1_0 := HB1_1.out.cell 0 rfl
  have c1_1 := HB1_1.out.cell 1 rfl
  go_wp2_with fail
  refine (short15_b [qs n.x, qs n.y, qs n.z, a.x, a.y] 5 (w1.heap.size) true _ rfl (by decide) HSZ.out (Blk.new' (w := _) (cs := #[.string (qs n.x), .string (qs n.y), .string (qs n.z), .string a.x, .string a.y]) (t := 22) (by first | rfl | (simp only [World.size_alloc]; done) | (simp only [World.size_alloc]; omega) | simp))).mono ?_; rintro e w2 ⟨rfl, e2⟩
  have HX2 : Hid (Ext w w2) := Lib.hid ((HX1.out.alloc _).trans e2)
  have HB0_2 : Hid (Blk w2 (w.heap.size) #[.string (qs n.x), .string (qs n.y), .string (qs n.z)] 37) := Lib.hid (Blk.ext (HB0_1.out.alloc _) e2)
  have HB1_2 : Hid (Blk w2 (w.heap.size + 1) #[.string a.x, .string a.y] 24) := Lib.hid (Blk.ext (HB1_1.out.alloc _) e2)
  have HB2_2 : Hid (Blk w2 (w1.heap.size) #[.string (qs n.x), .string (qs n.y), .string (qs n.z), .string a.x, .string a.y] 22) := Lib.hid (Blk.ext (Blk.new' (w := _) (cs := #[.string (qs n.x), .string (qs n.y), .string (qs n.z), .string a.x, .string a.y]) (t := 22) (by first | rfl | (simp only [World.size_alloc]; done) | (simp only [World.size_alloc]; omega) | simp)) e2)
  have HGEB2 : Hid (w.heap.size ≤ w1.heap.size) := Lib.hid (by have := HX1.out.size; first | omega | (simp only []; omega) | (simp; omega))
  clear e2 c0_0 c0_1 c0_2 c1_0 c1_1
  have c0_0 := HB0_2.out.cell 0 rfl
  have c0_1 := HB0_2.out.cell 1 rfl
  have c0_2 := HB0_2.out.cell 2 rfl
  go_wp2_with fail
  refine (agrad_u n _ (HG.out.ext HX2.out) HN.out HZ.out H0.out).mono ?_; rintro e w3 ⟨rfl, e3⟩
  have HX3 : Hid (Ext w w3) := Lib.hid (HX2.out.trans e3)
  have HB0_3 := Lib.hid (Blk.ext HB0_2.out e3)
  have HB1_3 := Lib.hid (Blk.ext HB1_2.out e3)
  clear e3 c0_0 c0_1 c0_2
  go_upto_region 4 with fail
  refine wp_name (fun W => Ext w W ∧ Blk W (w.heap.size) #[.string (qs n.x), .string (qs n.y), .string (qs n.z)] 37 ∧ Blk W (w.heap.size + 1) #[.string a.x, .string a.y] 24 ∧ Blk W (w3.heap.size) #[.string ⟨#[]⟩, .string ⟨#[]⟩] 24) ⟨(HX3.out.alloc _), (HB0_3.out.alloc _), (HB1_3.out.alloc _), (Blk.new' (w := _) (cs := #[.string ⟨#[]⟩, .string ⟨#[]⟩]) (t := 24) (by first | rfl | (simp only [World.size_alloc]; done) | (simp only [World.size_alloc]; omega) | simp))⟩ ?_
  rintro w4 ⟨e4, bB0_4, bB1_4, bB3_4⟩
  have HX4 := Lib.hid e4; have HB0_4 := Lib.hid bB0_4; have HB1_4 := Lib.hid bB1_4; have HB3_4 := Lib.hid bB3_4
  have HGEB3 : Hid (w.heap.size ≤ w3.heap.size) := Lib.hid (by have := HX3.out.size; first | omega | (simp only []; omega) | (simp; omega))
  clear e4 bB0_4 bB1_4 bB3_4
  have c1_0 := HB1_4.out.cell 0 rfl
  have c1_1 := HB1_4.out.cell 1 rfl
  go_wp2_with fail
  refine (anorm_e a _ (HG.out.ext HX4.out) HA.out (terr_2 HAW.out)).mono ?_; rintro e w5 ⟨rfl, e5⟩
  have HX5 : Hid (Ext w w5) := Lib.hid (HX4.out.trans e5)
  have HB0_5 := Lib.hid (Blk.ext HB0_4.out e5)
  have HB1_5 := Lib.hid (Blk.ext HB1_4.out e5)
  have HB3_5 := Lib.hid (Blk.ext HB3_4.out e5)
  clear e5 c1_0 c1_1
  go_upto_region 5 with fail
  refine wp_name (fun W => Ext w W ∧ Blk W (w.heap.size) #[.string (qs n.x), .string (qs n.y), .string (qs n.z)] 37 ∧ Blk W (w.heap.size + 1) #[.string a.x, .string a.y] 24 ∧ Blk W (w3.heap.size) #[.string ⟨#[]⟩, .string ⟨#[]⟩] 24 ∧ Blk W (w5.heap.size) #[.string ⟨#[]⟩, .string ⟨#[]⟩, .string ⟨#[]⟩] 37) ⟨(HX5.out.alloc _), (HB0_5.out.alloc _), (HB1_5.out.alloc _), (HB3_5.out.alloc _), (Blk.new' (w := _) (cs := #[.string ⟨#[]⟩, .string ⟨#[]⟩, .string ⟨#[]⟩]) (t := 37) (by first | rfl | (simp only [World.size_alloc]; done) | (simp only [World.size_alloc]; omega) | simp))⟩ ?_
  rintro w6 ⟨e6, bB0_6, bB1_6, bB3_6, bB4_6⟩
  have HX6 := Lib.hid e6; have HB0_6 := Lib.hid bB0_6; have HB1_6 := Lib.hid bB1_6; have HB3_6 := Lib.hid bB3_6; have HB4_6 := Lib.hid bB4_6
  have HGEB4 : Hid (w.heap.size ≤ w5.heap.size) := Lib.hid (by have := HX5.out.size; first | omega | (simp only []; omega) | (simp; omega))
  clear e6 bB0_6 bB1_6 bB3_6 bB4_6
  have c0_0 := HB0_6.out.cell 0 rfl
  have c0_1 := HB0_6.out.cell 1 rfl
  have c0_2 := HB0_6.out.cell 2 rfl
  go_wp2_with fail
  refine (lnorm_ok n _ (HG.out.ext HX6.out) HN.out HZ.out).mono ?_; rintro e w7 ⟨rfl, e7⟩
  have HX7 : Hid (Ext w w7) := Lib.hid (HX6.out.trans e7)
  have HB0_7 := Lib.hid (Blk.ext HB0_6.out e7)
  have HB1_7 := Lib.hid (Blk.ext HB1_6.out e7)
  have HB3_7 := Lib.hid (Blk.ext HB3_6.out e7)
  have HB4_7 := Lib.hid (Blk.ext HB4_6.out e7)
  clear e7 c0_0 c0_1 c0_2
  have c0_2 := HB0_7.out.cell 2 rfl
  have c3_0 := HB3_7.out.cell 0 rfl
  have c3_1 := HB3_7.out.cell 1 rfl
  go_wp2_with fail
  refine wp_name (fun W => Ext w W ∧ Blk W (w.heap.size + 1) #[.string a.x, .string a.y] 24 ∧ Blk W (w5.heap.size) #[.string ⟨#[]⟩, .string ⟨#[]⟩, .string ⟨#[]⟩] 37) ⟨HX7.out, HB1_7.out, HB4_7.out⟩ ?_
  rintro w8 ⟨e8, bB1_8, bB4_8⟩
  have HX8 := Lib.hid e8; have HB1_8 := Lib.hid bB1_8; have HB4_8 := Lib.hid bB4_8
  clear e8 bB1_8 bB4_8 c0_2 c3_0 c3_1
  refine region_lin [.val (.int .i64 21), .val (.bool false), .val (.bool false), .off, .off, .off, .off, .off, .off, .off, .off, .off, .off, .off, .off, .off, .off, .off, .off, .off, .off, .off, .val (.bool false)] (by kernel_rfl) (by kernel_rfl) (by kernel_rfl) ?_ (fun g8 w9 hx_ hm_ hne_ => ?_)
  · skip
    refine RnL.cons (fun g8 A_ W_ hs_ => ?_) ?_
    · have q9_ := (hs_.old 9 (by kernel_rfl) : A_.tmps[9]?.getD undef = .int .i64 21)
      refine Rn.val fun K_ hK_ => ?_
      go_simp
      exact hK_.out _ (Ext.refl _)
    refine RnL.cons (fun g8 A_ W_ hs_ => ?_) ?_
    · have q61_ := hs_.val 0 rfl rfl rfl
      refine Rn.val fun K_ hK_ => ?_
      go_simp
      exact hK_.out _ (Ext.refl _)
    refine RnL.cons (fun g8 A_ W_ hs_ => ?_) ?_
    · have q62_ := hs_.val 1 rfl rfl rfl
      refine Rn.val fun K_ hK_ => ?_
      go_simp
      exact hK_.out _ (Ext.refl _)
    refine RnL.cons (fun g8 A_ W_ hs_ => ?_) ?_
    · exact Rn.off
    refine RnL.cons (fun g8 A_ W_ hs_ => ?_) ?_
    · exact Rn.off
    refine RnL.cons (fun g8 A_ W_ hs_ => ?_) ?_
    · exact Rn.off
    refine RnL.cons (fun g8 A_ W_ hs_ => ?_) ?_
    · exact Rn.off
    refine RnL.cons (fun g8 A_ W_ hs_ => ?_) ?_
    · exact Rn.off
    refine RnL.cons (fun g8 A_ W_ hs_ => ?_) ?_
    · exact Rn.off
    refine RnL.cons (fun g8 A_ W_ hs_ => ?_) ?_
    · exact Rn.off
    refine RnL.cons (fun g8 A_ W_ hs_ => ?_) ?_
    · exact Rn.off
    refine RnL.cons (fun g8 A_ W_ hs_ => ?_) ?_
    · exact Rn.off
    refine RnL.cons (fun g8 A_ W_ hs_ => ?_) ?_
    · exact Rn.off
    refine RnL.cons (fun g8 A_ W_ hs_ => ?_) ?_
    · exact Rn.off
    refine RnL.cons (fun g8 A_ W_ hs_ => ?_) ?_
    · exact Rn.off
    refine RnL.cons (fun g8 A_ W_ hs_ => ?_) ?_
    · exact Rn.off
    refine RnL.cons (fun g8 A_ W_ hs_ => ?_) ?_
    · exact Rn.off
    refine RnL.cons (fun g8 A_ W_ hs_ => ?_) ?_
    · exact Rn.off
    refine RnL.cons (fun g8 A_ W_ hs_ => ?_) ?_
    · exact Rn.off
    refine RnL.cons (fun g8 A_ W_ hs_ => ?_) ?_
    · exact Rn.off
    refine RnL.cons (fun g8 A_ W_ hs_ => ?_) ?_
    · exact Rn.off
    refine RnL.cons (fun g8 A_ W_ hs_ => ?_) ?_
    · exact Rn.off
    refine RnL.cons (fun g8 A_ W_ hs_ => ?_) ?_
    · have q63_ := hs_.val 2 rfl rfl rfl
      have q82_ := hs_.un 21 rfl rfl rfl
      refine Rn.val fun K_ hK_ => ?_
      go_simp
      exact hK_.out _ (Ext.refl _)
    exact RnL.nil
  simp only [fs, Kd.value, puts, Act.put, List.setIfInBounds_toArray, List.set_cons_zero, List.set_cons_succ]
  have HX9 : Hid (Ext w w9) := Lib.hid (HX8.out.drew.trans hx_)
  have HB1_9 := Lib.hid (HB1_8.out.drew.ext hx_)
  have HB4_9 := Lib.hid (HB4_8.out.drew.ext hx_)
  clear hx_ hm_ hne_
  have c1_0 := HB1_9.out.cell 0 rfl
  have c1_1 := HB1_9.out.cell 1 rfl
  go_wp2_with fail
  refine (right15_b [a.x, a.y] 2 (w9.heap.size) false _ (HG.out.ext (HX9.out.alloc _)) rfl (by decide) HL2.out HRT.out (Blk.new' (w := _) (cs := #[.string a.x, .string a.y]) (t := 22) (by first | rfl | (simp only [World.size_alloc]; done) | (simp only [World.size_alloc]; omega) | simp))).mono ?_; rintro e w10 ⟨rfl, e10⟩
  have HX10 : Hid (Ext w w10) := Lib.hid ((HX9.out.alloc _).trans e10)
  have HB4_10 : Hid (Blk w10 (w5.heap.size) #[.string ⟨#[]⟩, .string ⟨#[]⟩, .string ⟨#[]⟩] 37) := Lib.hid (Blk.ext (HB4_9.out.alloc _) e10)
  have HB5_10 : Hid (Blk w10 (w9.heap.size) #[.string a.x, .string a.y] 22) := Lib.hid (Blk.ext (Blk.new' (w := _) (cs := #[.string a.x, .string a.y]) (t := 22) (by first | rfl | (simp only [World.size_alloc]; done) | (simp only [World.size_alloc]; omega) | simp)) e10)
  have HGEB5 : Hid (w.heap.size ≤ w9.heap.size) := Lib.hid (by have := HX9.out.size; first | omega | (simp only []; omega) | (simp; omega))
  clear e10 c1_0 c1_1
  have c4_0 := HB4_10.out.cell 0 rfl
  have c4_1 := HB4_10.out.cell 1 rfl
  have c4_2 := HB4_10.out.cell 2 rfl
  go_wp2
  go_ret
  exact ⟨rfl, HX10.out⟩

set_option maxRecDepth 100000 in
set_option maxHeartbeats 16000000 in
theorem grad15_UR (n : V3) (a : P2) (w : World) (g : Gd w) (hsz : [qs n.x, qs n.y, qs n.z, qs a.x, qs a.y].all sz24 = true) (hn : VB 200 n) (hz : ¬ (n.x = 0 ∧ n.y = 0 ∧ n.z = 0)) (h0 : n.z = 0) : Calls Tryz.prog 6 #[.agg #[.string (qs n.x), .string (qs n.y), .string (qs n.z)], .agg #[.string (qs a.x), .string (qs a.y)]] w (Ret w (.bool true)) := by
  have HN := Lib.hid hn
  have HZ := Lib.hid hz
  have HG := Lib.hid g
  clear hn hz g
  have HSZ := Lib.hid hsz
  simp only [List.all_cons, List.all_nil, Bool.and_true, Bool.and_eq_true, sz24_true] at hsz
  obtain ⟨s0, s1, s2, s3, s4⟩ := hsz
  have HN4 : Hid (VB 24 n) := Lib.hid ⟨qb_of_size s0, qb_of_size s1, qb_of_size s2⟩
  have HA4 : Hid (PB 24 a) := Lib.hid ⟨qb_of_size s3, qb_of_size s4⟩; have HA2 : Hid (PB 200 a) := Lib.hid (HA4.out.mono (by decide))
  have HRT : Hid ([qs a.x, qs a.y].all rq = true) := Lib.hid HA2.out.all
  have HL2 : Hid (∀ (i : Nat) (hi : i < [qs a.x, qs a.y].length), ([qs a.x, qs a.y][i]).size ≤ 1000000) := Lib.hid (sizes2 HA2.out.ts.x HA2.out.ts.y)
  clear s0 s1 s2 s3 s4
  have h0_t := qs_is0 h0
  have H0 := Lib.hid h0; clear h0
  go_enter Tryz.func6, Tryz.ntmps6
  go_wp2_with fail
  refine (known15_c _ (HG.out.ext (((Ext.refl w).alloc _).alloc _))).mono ?_; rintro e w1 ⟨rfl, e1⟩
  have HX1 : Hid (Ext w w1) := Lib.hid ((((Ext.refl w).alloc _).alloc _).trans e1)
  have HB0_1 : Hid (Blk w1 (w.heap.size) #[.string (qs n.x), .string (qs n.y), .string (qs n.z)] 37) := Lib.hid (Blk.ext ((Blk.new' (w := _) (cs := #[.string (qs n.x), .string (qs n.y), .string (qs n.z)]) (t := 37) (by first | rfl | (simp only [World.size_alloc]; done) | (simp only [World.size_alloc]; omega) | simp)).alloc _) e1)
  have HB1_1 : Hid (Blk w1 (w.heap.size + 1) #[.string (qs a.x), .string (qs a.y)] 24) := Lib.hid (Blk.ext (Blk.new' (w := _) (cs := #[.string (qs a.x), .string (qs a.y)]) (t := 24) (by first | rfl | (simp only [World.size_alloc]; done) | (simp only [World.size_alloc]; omega) | simp)) e1)
  have HGEB0 : Hid (w.heap.size ≤ w.heap.size) := Lib.hid (by first | omega | (simp only []; omega) | (simp; omega))
  have HGEB1 : Hid (w.heap.size ≤ w.heap.size + 1) := Lib.hid (by first | omega | (simp only []; omega) | (simp; omega))
  clear e1
  have c0_0 := HB0_1.out.cell 0 rfl
  have c0_1 := HB0_1.out.cell 1 rfl
  have c0_2 := HB0_1.out.cell 2 rfl
  have c1_0 := HB1_1.out.cell 0 rfl
  have c1_1 := HB1_1.out.cell 1 rfl
  go_wp2_with fail
  refine (short15_b [qs n.x, qs n.y, qs n.z, qs a.x, qs a.y] 5 (w1.heap.size) true _ rfl (by decide) HSZ.out (Blk.new' (w := _) (cs := #[.string (qs n.x), .string (qs n.y), .string (qs n.z), .string (qs a.x), .string (qs a.y)]) (t := 22) (by first | rfl | (simp only [World.size_alloc]; done) | (simp only [World.size_alloc]; omega) | simp))).mono ?_; rintro e w2 ⟨rfl, e2⟩
  have HX2 : Hid (Ext w w2) := Lib.hid ((HX1.out.alloc _).trans e2)
  have HB0_2 : Hid (Blk w2 (w.heap.size) #[.string (qs n.x), .string (qs n.y), .string (qs n.z)] 37) := Lib.hid (Blk.ext (HB0_1.out.alloc _) e2)
  have HB1_2 : Hid (Blk w2 (w.heap.size + 1) #[.string (qs a.x), .string (qs a.y)] 24) := Lib.hid (Blk.ext (HB1_1.out.alloc _) e2)
  have HB2_2 : Hid (Blk w2 (w1.heap.size) #[.string (qs n.x), .string (qs n.y), .string (qs n.z), .string (qs a.x), .string (qs a.y)] 22) := Lib.hid (Blk.ext (Blk.new' (w := _) (cs := #[.string (qs n.x), .string (qs n.y), .string (qs n.z), .string (qs a.x), .string (qs a.y)]) (t := 22) (by first | rfl | (simp only [World.size_alloc]; done) | (simp only [World.size_alloc]; omega) | simp)) e2)
  have HGEB2 : Hid (w.heap.size ≤ w1.heap.size) := Lib.hid (by have := HX1.out.size; first | omega | (simp only []; omega) | (simp; omega))
  clear e2 c0_0 c0_1 c0_2 c1_0 c1_1
  have c0_0 := HB0_2.out.cell 0 rfl
  have c0_1 := HB0_2.out.cell 1 rfl
  have c0_2 := HB0_2.out.cell 2 rfl
  go_wp2_with fail
  refine (agrad_u n _ (HG.out.ext HX2.out) HN.out HZ.out H0.out).mono ?_; rintro e w3 ⟨rfl, e3⟩
  have HX3 : Hid (Ext w w3) := Lib.hid (HX2.out.trans e3)
  have HB0_3 := Lib.hid (Blk.ext HB0_2.out e3)
  have HB1_3 := Lib.hid (Blk.ext HB1_2.out e3)
  clear e3 c0_0 c0_1 c0_2
  go_upto_region 4 with fail
  refine wp_name (fun W => Ext w W ∧ Blk W (w.heap.size) #[.string (qs n.x), .string (qs n.y), .string (qs n.z)] 37 ∧ Blk W (w.heap.size + 1) #[.string (qs a.x), .string (qs a.y)] 24 ∧ Blk W (w3.heap.size) #[.string ⟨#[]⟩, .string ⟨#[]⟩] 24) ⟨(HX3.out.alloc _), (HB0_3.out.alloc _), (HB1_3.out.alloc _), (Blk.new' (w := _) (cs := #[.string ⟨#[]⟩, .string ⟨#[]⟩]) (t := 24) (by first | rfl | (simp only [World.size_alloc]; done) | (simp only [World.size_alloc]; omega) | simp))⟩ ?_
  rintro w4 ⟨e4, bB0_4, bB1_4, bB3_4⟩
  have HX4 := Lib.hid e4; have HB0_4 := Lib.hid bB0_4; have HB1_4 := Lib.hid bB1_4; have HB3_4 := Lib.hid bB3_4
  have HGEB3 : Hid (w.heap.size ≤ w3.heap.size) := Lib.hid (by have := HX3.out.size; first | omega | (simp only []; omega) | (simp; omega))
  clear e4 bB0_4 bB1_4 bB3_4
  have c1_0 := HB1_4.out.cell 0 rfl
  have c1_1 := HB1_4.out.cell 1 rfl
  go_wp2_with fail
  refine (anorm_ok a _ (HG.out.ext HX4.out) HA2.out).mono ?_; rintro e w5 ⟨rfl, e5⟩
  have HX5 : Hid (Ext w w5) := Lib.hid (HX4.out.trans e5)
  have HB0_5 := Lib.hid (Blk.ext HB0_4.out e5)
  have HB1_5 := Lib.hid (Blk.ext HB1_4.out e5)
  have HB3_5 := Lib.hid (Blk.ext HB3_4.out e5)
  clear e5 c1_0 c1_1
  go_upto_region 5 with fail
  refine wp_name (fun W => Ext w W ∧ Blk W (w.heap.size) #[.string (qs n.x), .string (qs n.y), .string (qs n.z)] 37 ∧ Blk W (w.heap.size + 1) #[.string (qs a.x), .string (qs a.y)] 24 ∧ Blk W (w3.heap.size) #[.string ⟨#[]⟩, .string ⟨#[]⟩] 24 ∧ Blk W (w5.heap.size) #[.string (qs (-a.x)), .string (qs (-a.y)), .string ⟨#[49]⟩] 37) ⟨(HX5.out.alloc _), (HB0_5.out.alloc _), (HB1_5.out.alloc _), (HB3_5.out.alloc _), (Blk.new' (w := _) (cs := #[.string (qs (-a.x)), .string (qs (-a.y)), .string ⟨#[49]⟩]) (t := 37) (by first | rfl | (simp only [World.size_alloc]; done) | (simp only [World.size_alloc]; omega) | simp))⟩ ?_
  rintro w6 ⟨e6, bB0_6, bB1_6, bB3_6, bB4_6⟩
  have HX6 := Lib.hid e6; have HB0_6 := Lib.hid bB0_6; have HB1_6 := Lib.hid bB1_6; have HB3_6 := Lib.hid bB3_6; have HB4_6 := Lib.hid bB4_6
  have HGEB4 : Hid (w.heap.size ≤ w5.heap.size) := Lib.hid (by have := HX5.out.size; first | omega | (simp only []; omega) | (simp; omega))
  clear e6 bB0_6 bB1_6 bB3_6 bB4_6
  have c0_0 := HB0_6.out.cell 0 rfl
  have c0_1 := HB0_6.out.cell 1 rfl
  have c0_2 := HB0_6.out.cell 2 rfl
  go_wp2_with fail
  refine (lnorm_ok n _ (HG.out.ext HX6.out) HN.out HZ.out).mono ?_; rintro e w7 ⟨rfl, e7⟩
  have HX7 : Hid (Ext w w7) := Lib.hid (HX6.out.trans e7)
  have HB0_7 := Lib.hid (Blk.ext HB0_6.out e7)
  have HB1_7 := Lib.hid (Blk.ext HB1_6.out e7)
  have HB3_7 := Lib.hid (Blk.ext HB3_6.out e7)
  have HB4_7 := Lib.hid (Blk.ext HB4_6.out e7)
  clear e7 c0_0 c0_1 c0_2
  have c0_2 := HB0_7.out.cell 2 rfl
  have c3_0 := HB3_7.out.cell 0 rfl
  have c3_1 := HB3_7.out.cell 1 rfl
  go_wp2_with fail
  refine wp_name (fun W => Ext w W ∧ Blk W (w.heap.size + 1) #[.string (qs a.x), .string (qs a.y)] 24 ∧ Blk W (w5.heap.size) #[.string (qs (-a.x)), .string (qs (-a.y)), .string ⟨#[49]⟩] 37) ⟨HX7.out, HB1_7.out, HB4_7.out⟩ ?_
  rintro w8 ⟨e8, bB1_8, bB4_8⟩
  have HX8 := Lib.hid e8; have HB1_8 := Lib.hid bB1_8; have HB4_8 := Lib.hid bB4_8
  clear e8 bB1_8 bB4_8 c0_2 c3_0 c3_1
  refine region_lin [.val (.int .i64 21), .val (.bool false), .val (.bool false), .off, .off, .off, .off, .off, .off, .off, .off, .off, .off, .off, .off, .off, .off, .off, .off, .off, .off, .off, .val (.bool false)] (by kernel_rfl) (by kernel_rfl) (by kernel_rfl) ?_ (fun g8 w9 hx_ hm_ hne_ => ?_)
  · skip
    refine RnL.cons (fun g8 A_ W_ hs_ => ?_) ?_
    · have q9_ := (hs_.old 9 (by kernel_rfl) : A_.tmps[9]?.getD undef = .int .i64 21)
      refine Rn.val fun K_ hK_ => ?_
      go_simp
      exact hK_.out _ (Ext.refl _)
    refine RnL.cons (fun g8 A_ W_ hs_ => ?_) ?_
    · have q61_ := hs_.val 0 rfl rfl rfl
      refine Rn.val fun K_ hK_ => ?_
      go_simp
      exact hK_.out _ (Ext.refl _)
    refine RnL.cons (fun g8 A_ W_ hs_ => ?_) ?_
    · have q62_ := hs_.val 1 rfl rfl rfl
      refine Rn.val fun K_ hK_ => ?_
      go_simp
      exact hK_.out _ (Ext.refl _)
    refine RnL.cons (fun g8 A_ W_ hs_ => ?_) ?_
    · exact Rn.off
    refine RnL.cons (fun g8 A_ W_ hs_ => ?_) ?_
    · exact Rn.off
    refine RnL.cons (fun g8 A_ W_ hs_ => ?_) ?_
    · exact Rn.off
    refine RnL.cons (fun g8 A_ W_ hs_ => ?_) ?_
    · exact Rn.off
    refine RnL.cons (fun g8 A_ W_ hs_ => ?_) ?_
    · exact Rn.off
    refine RnL.cons (fun g8 A_ W_ hs_ => ?_) ?_
    · exact Rn.off
    refine RnL.cons (fun g8 A_ W_ hs_ => ?_) ?_
    · exact Rn.off
    refine RnL.cons (fun g8 A_ W_ hs_ => ?_) ?_
    · exact Rn.off
    refine RnL.cons (fun g8 A_ W_ hs_ => ?_) ?_
    · exact Rn.off
    refine RnL.cons (fun g8 A_ W_ hs_ => ?_) ?_
    · exact Rn.off
    refine RnL.cons (fun g8 A_ W_ hs_ => ?_) ?_
    · exact Rn.off
    refine RnL.cons (fun g8 A_ W_ hs_ => ?_) ?_
    · exact Rn.off
    refine RnL.cons (fun g8 A_ W_ hs_ => ?_) ?_
    · exact Rn.off
    refine RnL.cons (fun g8 A_ W_ hs_ => ?_) ?_
    · exact Rn.off
    refine RnL.cons (fun g8 A_ W_ hs_ => ?_) ?_
    · exact Rn.off
    refine RnL.cons (fun g8 A_ W_ hs_ => ?_) ?_
    · exact Rn.off
    refine RnL.cons (fun g8 A_ W_ hs_ => ?_) ?_
    · exact Rn.off
    refine RnL.cons (fun g8 A_ W_ hs_ => ?_) ?_
    · exact Rn.off
    refine RnL.cons (fun g8 A_ W_ hs_ => ?_) ?_
    · exact Rn.off
    refine RnL.cons (fun g8 A_ W_ hs_ => ?_) ?_
    · have q63_ := hs_.val 2 rfl rfl rfl
      have q82_ := hs_.un 21 rfl rfl rfl
      refine Rn.val fun K_ hK_ => ?_
      go_simp
      exact hK_.out _ (Ext.refl _)
    exact RnL.nil
  simp only [fs, Kd.value, puts, Act.put, List.setIfInBounds_toArray, List.set_cons_zero, List.set_cons_succ]
  have HX9 : Hid (Ext w w9) := Lib.hid (HX8.out.drew.trans hx_)
  have HB1_9 := Lib.hid (HB1_8.out.drew.ext hx_)
  have HB4_9 := Lib.hid (HB4_8.out.drew.ext hx_)
  clear hx_ hm_ hne_
  have c1_0 := HB1_9.out.cell 0 rfl
  have c1_1 := HB1_9.out.cell 1 rfl
  go_wp2_with fail
  refine (right15_b [qs a.x, qs a.y] 2 (w9.heap.size) true _ (HG.out.ext (HX9.out.alloc _)) rfl (by decide) HL2.out HRT.out (Blk.new' (w := _) (cs := #[.string (qs a.x), .string (qs a.y)]) (t := 22) (by first | rfl | (simp only [World.size_alloc]; done) | (simp only [World.size_alloc]; omega) | simp))).mono ?_; rintro e w10 ⟨rfl, e10⟩
  have HX10 : Hid (Ext w w10) := Lib.hid ((HX9.out.alloc _).trans e10)
  have HB1_10 : Hid (Blk w10 (w.heap.size + 1) #[.string (qs a.x), .string (qs a.y)] 24) := Lib.hid (Blk.ext (HB1_9.out.alloc _) e10)
  have HB4_10 : Hid (Blk w10 (w5.heap.size) #[.string (qs (-a.x)), .string (qs (-a.y)), .string ⟨#[49]⟩] 37) := Lib.hid (Blk.ext (HB4_9.out.alloc _) e10)
  have HB5_10 : Hid (Blk w10 (w9.heap.size) #[.string (qs a.x), .string (qs a.y)] 22) := Lib.hid (Blk.ext (Blk.new' (w := _) (cs := #[.string (qs a.x), .string (qs a.y)]) (t := 22) (by first | rfl | (simp only [World.size_alloc]; done) | (simp only [World.size_alloc]; omega) | simp)) e10)
  have HGEB5 : Hid (w.heap.size ≤ w9.heap.size) := Lib.hid (by have := HX9.out.size; first | omega | (simp only []; omega) | (simp; omega))
  clear e10 c1_0 c1_1
  have c4_0 := HB4_10.out.cell 0 rfl
  have c4_1 := HB4_10.out.cell 1 rfl
  have c4_2 := HB4_10.out.cell 2 rfl
  go_wp2_with fail
  refine (grad_back a _ (HG.out.ext HX10.out) HA4.out).mono ?_; rintro e w11 ⟨rfl, e11⟩
  have HX11 : Hid (Ext w w11) := Lib.hid (HX10.out.trans e11)
  have HB1_11 := Lib.hid (Blk.ext HB1_10.out e11)
  have HB4_11 := Lib.hid (Blk.ext HB4_10.out e11)
  clear e11 c4_0 c4_1 c4_2
  go_wp2_with fail
  refine wp_name (fun W => Ext w W ∧ Blk W (w.heap.size + 1) #[.string (qs a.x), .string (qs a.y)] 24 ∧ Blk W (w5.heap.size) #[.string (qs (-a.x)), .string (qs (-a.y)), .string ⟨#[49]⟩] 37 ∧ Blk W (w11.heap.size) #[.string (qs a.x), .string (qs a.y)] 24) ⟨(HX11.out.alloc _), (HB1_11.out.alloc _), (HB4_11.out.alloc _), (Blk.new' (w := _) (cs := #[.string (qs a.x), .string (qs a.y)]) (t := 24) (by first | rfl | (simp only [World.size_alloc]; done) | (simp only [World.size_alloc]; omega) | simp))⟩ ?_
  rintro w12 ⟨e12, bB1_12, bB4_12, bB6_12⟩
  have HX12 := Lib.hid e12; have HB1_12 := Lib.hid bB1_12; have HB4_12 := Lib.hid bB4_12; have HB6_12 := Lib.hid bB6_12
  have HGEB6 : Hid (w.heap.size ≤ w11.heap.size) := Lib.hid (by have := HX11.out.size; first | omega | (simp only []; omega) | (simp; omega))
  clear e12 bB1_12 bB4_12 bB6_12
  refine region_lin [.val (.agg #[.string (qs (-a.x)), .string (qs (-a.y)), .string ⟨#[49]⟩]), .val (.pointer (some ⟨w.heap.size + 1, 0, none⟩)), .val (.string (qs a.x)), .val (.string (qs (-a.x))), .val (.pointer (some ⟨w.heap.size + 1, 1, none⟩)), .val (.string (qs a.y)), .val (.string (qs (-a.y))), .val (.agg #[.string (qs (-a.x)), .string (qs (-a.y)), .string ⟨#[49]⟩]), .val (.bool true), .val (.bool true), .val (.int .i64 0), .val (.bool true), .val (.bool true), .val (.bool true), .val (.agg #[.string (qs a.x), .string (qs a.y)]), .val (.agg #[.string (qs a.x), .string (qs a.y)]), .val (.bool true), .val (.bool true), .val (.bool true), .val (.int .i64 0), .val (.bool true), .val (.bool true), .val (.bool true)] (by kernel_rfl) (by kernel_rfl) (by kernel_rfl) ?_ (fun g12 w13 hx_ hm_ hne_ => ?_)
  · skip
    refine RnL.cons (fun g12 A_ W_ hs_ => ?_) ?_
    · have q7_ := (hs_.old 7 (by kernel_rfl) : A_.tmps[7]?.getD undef = .pointer (some ⟨w5.heap.size, 0, none⟩))
      have cB4_0 := ((HB4_12.out.drew.ext hs_.1)).cell 0 rfl
      have cB4_1 := ((HB4_12.out.drew.ext hs_.1)).cell 1 rfl
      have cB4_2 := ((HB4_12.out.drew.ext hs_.1)).cell 2 rfl
      refine Rn.val fun K_ hK_ => ?_
      go_simp
      exact hK_.out _ (Ext.refl _)
    refine RnL.cons (fun g12 A_ W_ hs_ => ?_) ?_
    · have q3_ := (hs_.old 3 (by kernel_rfl) : A_.tmps[3]?.getD undef = .pointer (some ⟨w.heap.size + 1, 0, none⟩))
      refine Rn.val fun K_ hK_ => ?_
      go_simp
      exact hK_.out _ (Ext.refl _)
    refine RnL.cons (fun g12 A_ W_ hs_ => ?_) ?_
    · have q104_ := hs_.val 1 rfl rfl rfl
      have cB1_0 := ((HB1_12.out.drew.ext hs_.1)).cell 0 rfl
      refine Rn.val fun K_ hK_ => ?_
      go_simp
      exact hK_.out _ (Ext.refl _)
    refine RnL.cons (fun g12 A_ W_ hs_ => ?_) ?_
    · have q105_ := hs_.val 2 rfl rfl rfl
      refine Rn.val fun K_ hK_ => ?_
      go_simp
      refine (rneg_c a.x _ HA4.out.x (by omega)).mono ?_; rintro e W9_ ⟨rfl, e9_⟩; exact hK_.out _ e9_
    refine RnL.cons (fun g12 A_ W_ hs_ => ?_) ?_
    · have q3_ := (hs_.old 3 (by kernel_rfl) : A_.tmps[3]?.getD undef = .pointer (some ⟨w.heap.size + 1, 0, none⟩))
      refine Rn.val fun K_ hK_ => ?_
      go_simp
      exact hK_.out _ (Ext.refl _)
    refine RnL.cons (fun g12 A_ W_ hs_ => ?_) ?_
    · have q107_ := hs_.val 4 rfl rfl rfl
      have cB1_1 := ((HB1_12.out.drew.ext hs_.1)).cell 1 rfl
      refine Rn.val fun K_ hK_ => ?_
      go_simp
      exact hK_.out _ (Ext.refl _)
    refine RnL.cons (fun g12 A_ W_ hs_ => ?_) ?_
    · have q108_ := hs_.val 5 rfl rfl rfl
      refine Rn.val fun K_ hK_ => ?_
      go_simp
      refine (rneg_c a.y _ HA4.out.y (by omega)).mono ?_; rintro e W9_ ⟨rfl, e9_⟩; exact hK_.out _ e9_
    refine RnL.cons (fun g12 A_ W_ hs_ => ?_) ?_
    · have q106_ := hs_.val 3 rfl rfl rfl
      have q109_ := hs_.val 6 rfl rfl rfl
      refine Rn.val fun K_ hK_ => ?_
      go_simp
      exact hK_.out _ (Ext.refl _)
    refine RnL.cons (fun g12 A_ W_ hs_ => ?_) ?_
    · have q103_ := hs_.val 0 rfl rfl rfl
      have q110_ := hs_.val 7 rfl rfl rfl
      refine Rn.val fun K_ hK_ => ?_
      go_simp
      exact hK_.out _ (Ext.refl _)
    refine RnL.cons (fun g12 A_ W_ hs_ => ?_) ?_
    · have q111_ := hs_.val 8 rfl rfl rfl
      refine Rn.val fun K_ hK_ => ?_
      go_simp
      exact hK_.out _ (Ext.refl _)
    refine RnL.cons (fun g12 A_ W_ hs_ => ?_) ?_
    · have q8_ := (hs_.old 8 (by kernel_rfl) : A_.tmps[8]?.getD undef = .int .i64 0)
      refine Rn.val fun K_ hK_ => ?_
      go_simp
      exact hK_.out _ (Ext.refl _)
    refine RnL.cons (fun g12 A_ W_ hs_ => ?_) ?_
    · have q113_ := hs_.val 10 rfl rfl rfl
      refine Rn.val fun K_ hK_ => ?_
      go_simp
      exact hK_.out _ (Ext.refl _)
    refine RnL.cons (fun g12 A_ W_ hs_ => ?_) ?_
    · have q112_ := hs_.val 9 rfl rfl rfl
      have q114_ := hs_.val 11 rfl rfl rfl
      refine Rn.val fun K_ hK_ => ?_
      go_simp
      exact hK_.out _ (Ext.refl _)
    refine RnL.cons (fun g12 A_ W_ hs_ => ?_) ?_
    · have q115_ := hs_.val 12 rfl rfl rfl
      refine Rn.val fun K_ hK_ => ?_
      go_simp
      exact hK_.out _ (Ext.refl _)
    refine RnL.cons (fun g12 A_ W_ hs_ => ?_) ?_
    · have q10_ := (hs_.old 10 (by kernel_rfl) : A_.tmps[10]?.getD undef = .pointer (some ⟨w11.heap.size, 0, none⟩))
      have cB6_0 := ((HB6_12.out.drew.ext hs_.1)).cell 0 rfl
      have cB6_1 := ((HB6_12.out.drew.ext hs_.1)).cell 1 rfl
      refine Rn.val fun K_ hK_ => ?_
      go_simp
      exact hK_.out _ (Ext.refl _)
    refine RnL.cons (fun g12 A_ W_ hs_ => ?_) ?_
    · have q3_ := (hs_.old 3 (by kernel_rfl) : A_.tmps[3]?.getD undef = .pointer (some ⟨w.heap.size + 1, 0, none⟩))
      have cB1_0 := ((HB1_12.out.drew.ext hs_.1)).cell 0 rfl
      have cB1_1 := ((HB1_12.out.drew.ext hs_.1)).cell 1 rfl
      refine Rn.val fun K_ hK_ => ?_
      go_simp
      exact hK_.out _ (Ext.refl _)
    refine RnL.cons (fun g12 A_ W_ hs_ => ?_) ?_
    · have q117_ := hs_.val 14 rfl rfl rfl
      have q118_ := hs_.val 15 rfl rfl rfl
      refine Rn.val fun K_ hK_ => ?_
      go_simp
      exact hK_.out _ (Ext.refl _)
    refine RnL.cons (fun g12 A_ W_ hs_ => ?_) ?_
    · have q116_ := hs_.val 13 rfl rfl rfl
      have q119_ := hs_.val 16 rfl rfl rfl
      refine Rn.val fun K_ hK_ => ?_
      go_simp
      exact hK_.out _ (Ext.refl _)
    refine RnL.cons (fun g12 A_ W_ hs_ => ?_) ?_
    · have q120_ := hs_.val 17 rfl rfl rfl
      refine Rn.val fun K_ hK_ => ?_
      go_simp
      exact hK_.out _ (Ext.refl _)
    refine RnL.cons (fun g12 A_ W_ hs_ => ?_) ?_
    · have q11_ := (hs_.old 11 (by kernel_rfl) : A_.tmps[11]?.getD undef = .int .i64 0)
      refine Rn.val fun K_ hK_ => ?_
      go_simp
      exact hK_.out _ (Ext.refl _)
    refine RnL.cons (fun g12 A_ W_ hs_ => ?_) ?_
    · have q122_ := hs_.val 19 rfl rfl rfl
      refine Rn.val fun K_ hK_ => ?_
      go_simp
      exact hK_.out _ (Ext.refl _)
    refine RnL.cons (fun g12 A_ W_ hs_ => ?_) ?_
    · have q121_ := hs_.val 18 rfl rfl rfl
      have q123_ := hs_.val 20 rfl rfl rfl
      refine Rn.val fun K_ hK_ => ?_
      go_simp
      exact hK_.out _ (Ext.refl _)
    refine RnL.cons (fun g12 A_ W_ hs_ => ?_) ?_
    · have q124_ := hs_.val 21 rfl rfl rfl
      refine Rn.val fun K_ hK_ => ?_
      go_simp
      exact hK_.out _ (Ext.refl _)
    exact RnL.nil
  simp only [fs, Kd.value, puts, Act.put, List.setIfInBounds_toArray, List.set_cons_zero, List.set_cons_succ]
  have HX13 : Hid (Ext w w13) := Lib.hid (HX12.out.drew.trans hx_)
  clear hx_ hm_ hne_
  go_wp2
  go_ret
  exact ⟨rfl, HX13.out⟩

set_option maxRecDepth 100000 in
set_option maxHeartbeats 16000000 in
theorem grad15_RE (n : V3) (a : T2) (w : World) (g : Gd w) (hsz : [qs n.x, qs n.y, qs n.z, a.x, a.y].all sz24 = true) (hn : VB 200 n) (hz : ¬ (n.x = 0 ∧ n.y = 0 ∧ n.z = 0)) (ha : a.l.all rq = false) (h0 : n.z ≠ 0) : Calls Tryz.prog 6 #[.agg #[.string (qs n.x), .string (qs n.y), .string (qs n.z)], .agg #[.string a.x, .string a.y]] w (Ret w (.bool true)) := by
  have HN := Lib.hid hn
  have HZ := Lib.hid hz
  have HAW := Lib.hid ha
  have HG := Lib.hid g
  clear hn hz ha g
  have HSZ := Lib.hid hsz
  simp only [List.all_cons, List.all_nil, Bool.and_true, Bool.and_eq_true, sz24_true] at hsz
  obtain ⟨s0, s1, s2, s3, s4⟩ := hsz
  have HN4 : Hid (VB 24 n) := Lib.hid ⟨qb_of_size s0, qb_of_size s1, qb_of_size s2⟩
  have HA : Hid (TS2 a) := Lib.hid ⟨(Nat.le_trans s3 (by decide)), (Nat.le_trans s4 (by decide))⟩
  have HRT : Hid ([a.x, a.y].all rq = false) := HAW
  have HL2 : Hid (∀ (i : Nat) (hi : i < [a.x, a.y].length), ([a.x, a.y][i]).size ≤ 1000000) := Lib.hid (sizes2 HA.out.x HA.out.y)
  clear s0 s1 s2 s3 s4
  have h0_t := qs_not0 h0
  have H0 := Lib.hid h0; clear h0
  have hqx := qs_eqL (show -n.x / n.z = -(n.x / n.z) from by rw [Rat.div_def, Rat.div_def, Rat.neg_mul])
  have hqy := qs_eqL (show -n.y / n.z = -(n.y / n.z) from by rw [Rat.div_def, Rat.div_def, Rat.neg_mul])
  go_enter Tryz.func6, Tryz.ntmps6
  go_wp2_with fail
  refine (known15_c _ (HG.out.ext (((Ext.refl w).alloc _).alloc _))).mono ?_; rintro e w1 ⟨rfl, e1⟩
  have HX1 : Hid (Ext w w1) := Lib.hid ((((Ext.refl w).alloc _).alloc _).trans e1)
  have HB0_1 : Hid (Blk w1 (w.heap.size) #[.string (qs n.x), .string (qs n.y), .string (qs n.z)] 37) := Lib.hid (Blk.ext ((Blk.new' (w := _) (cs := #[.string (qs n.x), .string (qs n.y), .string (qs n.z)]) (t := 37) (by first | rfl | (simp only [World.size_alloc]; done) | (simp only [World.size_alloc]; omega) | simp)).alloc _) e1)
  have HB1_1 : Hid (Blk w1 (w.heap.size + 1) #[.string a.x, .string a.y] 24) := Lib.hid (Blk.ext (Blk.new' (w := _) (cs := #[.string a.x, .string a.y]) (t := 24) (by first | rfl | (simp only [World.size_alloc]; done) | (simp only [World.size_alloc]; omega) | simp)) e1)
  have HGEB0 : Hid (w.heap.size ≤ w.heap.size) := Lib.hid (by first | omega | (simp only []; omega) | (simp; omega))
  have HGEB1 : Hid (w.heap.size ≤ w.heap.size + 1) := Lib.hid (by first | omega | (simp only []; omega) | (simp; omega))
  clear e1
  have c0_0 := HB0_1.out.cell 0 rfl
  have c0_1 := HB0_1.out.cell 1 rfl
  have c0_2 := HB0_1.out.cell 2 rfl
  have c1_0 := HB1_1.out.cell 0 rfl
  have c1_1 := HB1_1.out.cell 1 rfl
  go_wp2_with fail
  refine (short15_b [qs n.x, qs n.y, qs n.z, a.x, a.y] 5 (w1.heap.size) true _ rfl (by decide) HSZ.out (Blk.new' (w := _) (cs := #[.string (qs n.x), .string (qs n.y), .string (qs n.z), .string a.x, .string a.y]) (t := 22) (by first | rfl | (simp only [World.size_alloc]; done) | (simp only [World.size_alloc]; omega) | simp))).mono ?_; rintro e w2 ⟨rfl, e2⟩
  have HX2 : Hid (Ext w w2) := Lib.hid ((HX1.out.alloc _).trans e2)
  have HB0_2 : Hid (Blk w2 (w.heap.size) #[.string (qs n.x), .string (qs n.y), .string (qs n.z)] 37) := Lib.hid (Blk.ext (HB0_1.out.alloc _) e2)
  have HB1_2 : Hid (Blk w2 (w.heap.size + 1) #[.string a.x, .string a.y] 24) := Lib.hid (Blk.ext (HB1_1.out.alloc _) e2)
  have HB2_2 : Hid (Blk w2 (w1.heap.size) #[.string (qs n.x), .string (qs n.y), .string (qs n.z), .string a.x, .string a.y] 22) := Lib.hid (Blk.ext (Blk.new' (w := _) (cs := #[.string (qs n.x), .string (qs n.y), .string (qs n.z), .string a.x, .string a.y]) (t := 22) (by first | rfl | (simp only [World.size_alloc]; done) | (simp only [World.size_alloc]; omega) | simp)) e2)
  have HGEB2 : Hid (w.heap.size ≤ w1.heap.size) := Lib.hid (by have := HX1.out.size; first | omega | (simp only []; omega) | (simp; omega))
  clear e2 c0_0 c0_1 c0_2 c1_0 c1_1
  have c0_0 := HB0_2.out.cell 0 rfl
  have c0_1 := HB0_2.out.cell 1 rfl
  have c0_2 := HB0_2.out.cell 2 rfl
  go_wp2_with fail
  refine (agrad_ok n _ (HG.out.ext HX2.out) HN.out HN4.out HZ.out H0.out).mono ?_; rintro e w3 ⟨rfl, e3⟩
  have HX3 : Hid (Ext w w3) := Lib.hid (HX2.out.trans e3)
  have HB0_3 := Lib.hid (Blk.ext HB0_2.out e3)
  have HB1_3 := Lib.hid (Blk.ext HB1_2.out e3)
  clear e3 c0_0 c0_1 c0_2
  go_upto_region 4 with fail
  refine wp_name (fun W => Ext w W ∧ Blk W (w.heap.size) #[.string (qs n.x), .string (qs n.y), .string (qs n.z)] 37 ∧ Blk W (w.heap.size + 1) #[.string a.x, .string a.y] 24 ∧ Blk W (w3.heap.size) #[.string (qs (-n.x / n.z)), .string (qs (-n.y / n.z))] 24) ⟨(HX3.out.alloc _), (HB0_3.out.alloc _), (HB1_3.out.alloc _), (Blk.new' (w := _) (cs := #[.string (qs (-n.x / n.z)), .string (qs (-n.y / n.z))]) (t := 24) (by first | rfl | (simp only [World.size_alloc]; done) | (simp only [World.size_alloc]; omega) | simp))⟩ ?_
  rintro w4 ⟨e4, bB0_4, bB1_4, bB3_4⟩
  have HX4 := Lib.hid e4; have HB0_4 := Lib.hid bB0_4; have HB1_4 := Lib.hid bB1_4; have HB3_4 := Lib.hid bB3_4
  have HGEB3 : Hid (w.heap.size ≤ w3.heap.size) := Lib.hid (by have := HX3.out.size; first | omega | (simp only []; omega) | (simp; omega))
  clear e4 bB0_4 bB1_4 bB3_4
  have c1_0 := HB1_4.out.cell 0 rfl
  have c1_1 := HB1_4.out.cell 1 rfl
  go_wp2_with fail
  refine (anorm_e a _ (HG.out.ext HX4.out) HA.out (terr_2 HAW.out)).mono ?_; rintro e w5 ⟨rfl, e5⟩
  have HX5 : Hid (Ext w w5) := Lib.hid (HX4.out.trans e5)
  have HB0_5 := Lib.hid (Blk.ext HB0_4.out e5)
  have HB1_5 := Lib.hid (Blk.ext HB1_4.out e5)
  have HB3_5 := Lib.hid (Blk.ext HB3_4.out e5)
  clear e5 c1_0 c1_1
  go_upto_region 5 with fail
  refine wp_name (fun W => Ext w W ∧ Blk W (w.heap.size) #[.string (qs n.x), .string (qs n.y), .string (qs n.z)] 37 ∧ Blk W (w.heap.size + 1) #[.string a.x, .string a.y] 24 ∧ Blk W (w3.heap.size) #[.string (qs (-n.x / n.z)), .string (qs (-n.y / n.z))] 24 ∧ Blk W (w5.heap.size) #[.string ⟨#[]⟩, .string ⟨#[]⟩, .string ⟨#[]⟩] 37) ⟨(HX5.out.alloc _), (HB0_5.out.alloc _), (HB1_5.out.alloc _), (HB3_5.out.alloc _), (Blk.new' (w := _) (cs := #[.string ⟨#[]⟩, .string ⟨#[]⟩, .string ⟨#[]⟩]) (t := 37) (by first | rfl | (simp only [World.size_alloc]; done) | (simp only [World.size_alloc]; omega) | simp))⟩ ?_
  rintro w6 ⟨e6, bB0_6, bB1_6, bB3_6, bB4_6⟩
  have HX6 := Lib.hid e6; have HB0_6 := Lib.hid bB0_6; have HB1_6 := Lib.hid bB1_6; have HB3_6 := Lib.hid bB3_6; have HB4_6 := Lib.hid bB4_6
  have HGEB4 : Hid (w.heap.size ≤ w5.heap.size) := Lib.hid (by have := HX5.out.size; first | omega | (simp only []; omega) | (simp; omega))
  clear e6 bB0_6 bB1_6 bB3_6 bB4_6
  have c0_0 := HB0_6.out.cell 0 rfl
  have c0_1 := HB0_6.out.cell 1 rfl
  have c0_2 := HB0_6.out.cell 2 rfl
  go_wp2_with fail
  refine (lnorm_ok n _ (HG.out.ext HX6.out) HN.out HZ.out).mono ?_; rintro e w7 ⟨rfl, e7⟩
  have HX7 : Hid (Ext w w7) := Lib.hid (HX6.out.trans e7)
  have HB0_7 := Lib.hid (Blk.ext HB0_6.out e7)
  have HB1_7 := Lib.hid (Blk.ext HB1_6.out e7)
  have HB3_7 := Lib.hid (Blk.ext HB3_6.out e7)
  have HB4_7 := Lib.hid (Blk.ext HB4_6.out e7)
  clear e7 c0_0 c0_1 c0_2
  have c0_2 := HB0_7.out.cell 2 rfl
  go_wp2_with fail
  refine wp_name (fun W => Ext w W ∧ Blk W (w.heap.size) #[.string (qs n.x), .string (qs n.y), .string (qs n.z)] 37 ∧ Blk W (w.heap.size + 1) #[.string a.x, .string a.y] 24 ∧ Blk W (w3.heap.size) #[.string (qs (-n.x / n.z)), .string (qs (-n.y / n.z))] 24 ∧ Blk W (w5.heap.size) #[.string ⟨#[]⟩, .string ⟨#[]⟩, .string ⟨#[]⟩] 37) ⟨HX7.out, HB0_7.out, HB1_7.out, HB3_7.out, HB4_7.out⟩ ?_
  rintro w8 ⟨e8, bB0_8, bB1_8, bB3_8, bB4_8⟩
  have HX8 := Lib.hid e8; have HB0_8 := Lib.hid bB0_8; have HB1_8 := Lib.hid bB1_8; have HB3_8 := Lib.hid bB3_8; have HB4_8 := Lib.hid bB4_8
  clear e8 bB0_8 bB1_8 bB3_8 bB4_8 c0_2
  refine region_lin [.val (.int .i64 0), .val (.bool true), .val (.bool true), .val (.agg #[.string (qs (-n.x / n.z)), .string (qs (-n.y / n.z))]), .val (.pointer (some ⟨w.heap.size, 0, none⟩)), .val (.string (qs n.x)), .val (.pointer (some ⟨w.heap.size, 2, none⟩)), .val (.string (qs n.z)), .val (.string (qs (n.x / n.z))), .val (.string (qs (-(n.x / n.z)))), .val (.pointer (some ⟨w.heap.size, 1, none⟩)), .val (.string (qs n.y)), .val (.pointer (some ⟨w.heap.size, 2, none⟩)), .val (.string (qs n.z)), .val (.string (qs (n.y / n.z))), .val (.string (qs (-(n.y / n.z)))), .val (.agg #[.string (qs (-(n.x / n.z))), .string (qs (-(n.y / n.z)))]), .val (.bool false), .val (.bool false), .val (.int .i64 0), .val (.bool false), .val (.bool false), .val (.bool false)] (by kernel_rfl) (by kernel_rfl) (by kernel_rfl) ?_ (fun g8 w9 hx_ hm_ hne_ => ?_)
  · skip
    refine RnL.cons (fun g8 A_ W_ hs_ => ?_) ?_
    · have q9_ := (hs_.old 9 (by kernel_rfl) : A_.tmps[9]?.getD undef = .int .i64 0)
      refine Rn.val fun K_ hK_ => ?_
      go_simp
      exact hK_.out _ (Ext.refl _)
    refine RnL.cons (fun g8 A_ W_ hs_ => ?_) ?_
    · have q61_ := hs_.val 0 rfl rfl rfl
      refine Rn.val fun K_ hK_ => ?_
      go_simp
      exact hK_.out _ (Ext.refl _)
    refine RnL.cons (fun g8 A_ W_ hs_ => ?_) ?_
    · have q62_ := hs_.val 1 rfl rfl rfl
      refine Rn.val fun K_ hK_ => ?_
      go_simp
      exact hK_.out _ (Ext.refl _)
    refine RnL.cons (fun g8 A_ W_ hs_ => ?_) ?_
    · have q5_ := (hs_.old 5 (by kernel_rfl) : A_.tmps[5]?.getD undef = .pointer (some ⟨w3.heap.size, 0, none⟩))
      have cB3_0 := ((HB3_8.out.drew.ext hs_.1)).cell 0 rfl
      have cB3_1 := ((HB3_8.out.drew.ext hs_.1)).cell 1 rfl
      refine Rn.val fun K_ hK_ => ?_
      go_simp
      exact hK_.out _ (Ext.refl _)
    refine RnL.cons (fun g8 A_ W_ hs_ => ?_) ?_
    · have q2_ := (hs_.old 2 (by kernel_rfl) : A_.tmps[2]?.getD undef = .pointer (some ⟨w.heap.size, 0, none⟩))
      refine Rn.val fun K_ hK_ => ?_
      go_simp
      exact hK_.out _ (Ext.refl _)
    refine RnL.cons (fun g8 A_ W_ hs_ => ?_) ?_
    · have q65_ := hs_.val 4 rfl rfl rfl
      have cB0_0 := ((HB0_8.out.drew.ext hs_.1)).cell 0 rfl
      refine Rn.val fun K_ hK_ => ?_
      go_simp
      exact hK_.out _ (Ext.refl _)
    refine RnL.cons (fun g8 A_ W_ hs_ => ?_) ?_
    · have q2_ := (hs_.old 2 (by kernel_rfl) : A_.tmps[2]?.getD undef = .pointer (some ⟨w.heap.size, 0, none⟩))
      refine Rn.val fun K_ hK_ => ?_
      go_simp
      exact hK_.out _ (Ext.refl _)
    refine RnL.cons (fun g8 A_ W_ hs_ => ?_) ?_
    · have q67_ := hs_.val 6 rfl rfl rfl
      have cB0_2 := ((HB0_8.out.drew.ext hs_.1)).cell 2 rfl
      refine Rn.val fun K_ hK_ => ?_
      go_simp
      exact hK_.out _ (Ext.refl _)
    refine RnL.cons (fun g8 A_ W_ hs_ => ?_) ?_
    · have q66_ := hs_.val 5 rfl rfl rfl
      have q68_ := hs_.val 7 rfl rfl rfl
      refine Rn.val fun K_ hK_ => ?_
      go_simp
      refine (ldiv_c n.x n.z _ (HG.out.ext (HX8.out.drew.trans hs_.1)) HN4.out.x HN4.out.z (by omega) (by omega) (by omega) H0.out).mono ?_; rintro e W9_ ⟨rfl, e9_⟩; exact hK_.out _ e9_
    refine RnL.cons (fun g8 A_ W_ hs_ => ?_) ?_
    · have q69_ := hs_.val 8 rfl rfl rfl
      refine Rn.val fun K_ hK_ => ?_
      go_simp
      refine (rneg_c (n.x / n.z) _ (HN4.out.x.div HN4.out.z (by decide)) (by omega)).mono ?_; rintro e W9_ ⟨rfl, e9_⟩; exact hK_.out _ e9_
    refine RnL.cons (fun g8 A_ W_ hs_ => ?_) ?_
    · have q2_ := (hs_.old 2 (by kernel_rfl) : A_.tmps[2]?.getD undef = .pointer (some ⟨w.heap.size, 0, none⟩))
      refine Rn.val fun K_ hK_ => ?_
      go_simp
      exact hK_.out _ (Ext.refl _)
    refine RnL.cons (fun g8 A_ W_ hs_ => ?_) ?_
    · have q71_ := hs_.val 10 rfl rfl rfl
      have cB0_1 := ((HB0_8.out.drew.ext hs_.1)).cell 1 rfl
      refine Rn.val fun K_ hK_ => ?_
      go_simp
      exact hK_.out _ (Ext.refl _)
    refine RnL.cons (fun g8 A_ W_ hs_ => ?_) ?_
    · have q2_ := (hs_.old 2 (by kernel_rfl) : A_.tmps[2]?.getD undef = .pointer (some ⟨w.heap.size, 0, none⟩))
      refine Rn.val fun K_ hK_ => ?_
      go_simp
      exact hK_.out _ (Ext.refl _)
    refine RnL.cons (fun g8 A_ W_ hs_ => ?_) ?_
    · have q73_ := hs_.val 12 rfl rfl rfl
      have cB0_2 := ((HB0_8.out.drew.ext hs_.1)).cell 2 rfl
      refine Rn.val fun K_ hK_ => ?_
      go_simp
      exact hK_.out _ (Ext.refl _)
    refine RnL.cons (fun g8 A_ W_ hs_ => ?_) ?_
    · have q72_ := hs_.val 11 rfl rfl rfl
      have q74_ := hs_.val 13 rfl rfl rfl
      refine Rn.val fun K_ hK_ => ?_
      go_simp
      refine (ldiv_c n.y n.z _ (HG.out.ext (HX8.out.drew.trans hs_.1)) HN4.out.y HN4.out.z (by omega) (by omega) (by omega) H0.out).mono ?_; rintro e W9_ ⟨rfl, e9_⟩; exact hK_.out _ e9_
    refine RnL.cons (fun g8 A_ W_ hs_ => ?_) ?_
    · have q75_ := hs_.val 14 rfl rfl rfl
      refine Rn.val fun K_ hK_ => ?_
      go_simp
      refine (rneg_c (n.y / n.z) _ (HN4.out.y.div HN4.out.z (by decide)) (by omega)).mono ?_; rintro e W9_ ⟨rfl, e9_⟩; exact hK_.out _ e9_
    refine RnL.cons (fun g8 A_ W_ hs_ => ?_) ?_
    · have q70_ := hs_.val 9 rfl rfl rfl
      have q76_ := hs_.val 15 rfl rfl rfl
      refine Rn.val fun K_ hK_ => ?_
      go_simp
      exact hK_.out _ (Ext.refl _)
    refine RnL.cons (fun g8 A_ W_ hs_ => ?_) ?_
    · have q64_ := hs_.val 3 rfl rfl rfl
      have q77_ := hs_.val 16 rfl rfl rfl
      refine Rn.val fun K_ hK_ => ?_
      go_simp
      exact hK_.out _ (Ext.refl _)
    refine RnL.cons (fun g8 A_ W_ hs_ => ?_) ?_
    · have q78_ := hs_.val 17 rfl rfl rfl
      refine Rn.val fun K_ hK_ => ?_
      go_simp
      exact hK_.out _ (Ext.refl _)
    refine RnL.cons (fun g8 A_ W_ hs_ => ?_) ?_
    · have q6_ := (hs_.old 6 (by kernel_rfl) : A_.tmps[6]?.getD undef = .int .i64 0)
      refine Rn.val fun K_ hK_ => ?_
      go_simp
      exact hK_.out _ (Ext.refl _)
    refine RnL.cons (fun g8 A_ W_ hs_ => ?_) ?_
    · have q80_ := hs_.val 19 rfl rfl rfl
      refine Rn.val fun K_ hK_ => ?_
      go_simp
      exact hK_.out _ (Ext.refl _)
    refine RnL.cons (fun g8 A_ W_ hs_ => ?_) ?_
    · have q79_ := hs_.val 18 rfl rfl rfl
      have q81_ := hs_.val 20 rfl rfl rfl
      refine Rn.val fun K_ hK_ => ?_
      go_simp
      exact hK_.out _ (Ext.refl _)
    refine RnL.cons (fun g8 A_ W_ hs_ => ?_) ?_
    · have q63_ := hs_.val 2 rfl rfl rfl
      have q82_ := hs_.val 21 rfl rfl rfl
      refine Rn.val fun K_ hK_ => ?_
      go_simp
      exact hK_.out _ (Ext.refl _)
    exact RnL.nil
  simp only [fs, Kd.value, puts, Act.put, List.setIfInBounds_toArray, List.set_cons_zero, List.set_cons_succ]
  have HX9 : Hid (Ext w w9) := Lib.hid (HX8.out.drew.trans hx_)
  have HB1_9 := Lib.hid (HB1_8.out.drew.ext hx_)
  have HB4_9 := Lib.hid (HB4_8.out.drew.ext hx_)
  clear hx_ hm_ hne_
  have c1_0 := HB1_9.out.cell 0 rfl
  have c1_1 := HB1_9.out.cell 1 rfl
  go_wp2_with fail
  refine (right15_b [a.x, a.y] 2 (w9.heap.size) false _ (HG.out.ext (HX9.out.alloc _)) rfl (by decide) HL2.out HRT.out (Blk.new' (w := _) (cs := #[.string a.x, .string a.y]) (t := 22) (by first | rfl | (simp only [World.size_alloc]; done) | (simp only [World.size_alloc]; omega) | simp))).mono ?_; rintro e w10 ⟨rfl, e10⟩
  have HX10 : Hid (Ext w w10) := Lib.hid ((HX9.out.alloc _).trans e10)
  have HB4_10 : Hid (Blk w10 (w5.heap.size) #[.string ⟨#[]⟩, .string ⟨#[]⟩, .string ⟨#[]⟩] 37) := Lib.hid (Blk.ext (HB4_9.out.alloc _) e10)
  have HB5_10 : Hid (Blk w10 (w9.heap.size) #[.string a.x, .string a.y] 22) := Lib.hid (Blk.ext (Blk.new' (w := _) (cs := #[.string a.x, .string a.y]) (t := 22) (by first | rfl | (simp only [World.size_alloc]; done) | (simp only [World.size_alloc]; omega) | simp)) e10)
  have HGEB5 : Hid (w.heap.size ≤ w9.heap.size) := Lib.hid (by have := HX9.out.size; first | omega | (simp only []; omega) | (simp; omega))
  clear e10 c1_0 c1_1
  have c4_0 := HB4_10.out.cell 0 rfl
  have c4_1 := HB4_10.out.cell 1 rfl
  have c4_2 := HB4_10.out.cell 2 rfl
  go_wp2
  go_ret
  exact ⟨rfl, HX10.out⟩

set_option maxRecDepth 100000 in
set_option maxHeartbeats 16000000 in
theorem grad15_RR (n : V3) (a : P2) (w : World) (g : Gd w) (hsz : [qs n.x, qs n.y, qs n.z, qs a.x, qs a.y].all sz24 = true) (hn : VB 200 n) (hz : ¬ (n.x = 0 ∧ n.y = 0 ∧ n.z = 0)) (h0 : n.z ≠ 0) : Calls Tryz.prog 6 #[.agg #[.string (qs n.x), .string (qs n.y), .string (qs n.z)], .agg #[.string (qs a.x), .string (qs a.y)]] w (Ret w (.bool true)) := by
  have HN := Lib.hid hn
  have HZ := Lib.hid hz
  have HG := Lib.hid g
  clear hn hz g
  have HSZ := Lib.hid hsz
  simp only [List.all_cons, List.all_nil, Bool.and_true, Bool.and_eq_true, sz24_true] at hsz
  obtain ⟨s0, s1, s2, s3, s4⟩ := hsz
  have HN4 : Hid (VB 24 n) := Lib.hid ⟨qb_of_size s0, qb_of_size s1, qb_of_size s2⟩
  have HA4 : Hid (PB 24 a) := Lib.hid ⟨qb_of_size s3, qb_of_size s4⟩; have HA2 : Hid (PB 200 a) := Lib.hid (HA4.out.mono (by decide))
  have HRT : Hid ([qs a.x, qs a.y].all rq = true) := Lib.hid HA2.out.all
  have HL2 : Hid (∀ (i : Nat) (hi : i < [qs a.x, qs a.y].length), ([qs a.x, qs a.y][i]).size ≤ 1000000) := Lib.hid (sizes2 HA2.out.ts.x HA2.out.ts.y)
  clear s0 s1 s2 s3 s4
  have h0_t := qs_not0 h0
  have H0 := Lib.hid h0; clear h0
  have hqx := qs_eqL (show -n.x / n.z = -(n.x / n.z) from by rw [Rat.div_def, Rat.div_def, Rat.neg_mul])
  have hqy := qs_eqL (show -n.y / n.z = -(n.y / n.z) from by rw [Rat.div_def, Rat.div_def, Rat.neg_mul])
  go_enter Tryz.func6, Tryz.ntmps6
  go_wp2_with fail
  refine (known15_c _ (HG.out.ext (((Ext.refl w).alloc _).alloc _))).mono ?_; rintro e w1 ⟨rfl, e1⟩
  have HX1 : Hid (Ext w w1) := Lib.hid ((((Ext.refl w).alloc _).alloc _).trans e1)
  have HB0_1 : Hid (Blk w1 (w.heap.size) #[.string (qs n.x), .string (qs n.y), .string (qs n.z)] 37) := Lib.hid (Blk.ext ((Blk.new' (w := _) (cs := #[.string (qs n.x), .string (qs n.y), .string (qs n.z)]) (t := 37) (by first | rfl | (simp only [World.size_alloc]; done) | (simp only [World.size_alloc]; omega) | simp)).alloc _) e1)
  have HB1_1 : Hid (Blk w1 (w.heap.size + 1) #[.string (qs a.x), .string (qs a.y)] 24) := Lib.hid (Blk.ext (Blk.new' (w := _) (cs := #[.string (qs a.x), .string (qs a.y)]) (t := 24) (by first | rfl | (simp only [World.size_alloc]; done) | (simp only [World.size_alloc]; omega) | simp)) e1)
  have HGEB0 : Hid (w.heap.size ≤ w.heap.size) := Lib.hid (by first | omega | (simp only []; omega) | (simp; omega))
  have HGEB1 : Hid (w.heap.size ≤ w.heap.size + 1) := Lib.hid (by first | omega | (simp only []; omega) | (simp; omega))
  clear e1
  have c0_0 := HB0_1.out.cell 0 rfl
  have c0_1 := HB0_1.out.cell 1 rfl
  have c0_2 := HB0_1.out.cell 2 rfl
  have c1_0 := HB1_1.out.cell 0 rfl
  have c1_1 := HB1_1.out.cell 1 rfl
  go_wp2_with fail
  refine (short15_b [qs n.x, qs n.y, qs n.z, qs a.x, qs a.y] 5 (w1.heap.size) true _ rfl (by decide) HSZ.out (Blk.new' (w := _) (cs := #[.string (qs n.x), .string (qs n.y), .string (qs n.z), .string (qs a.x), .string (qs a.y)]) (t := 22) (by first | rfl | (simp only [World.size_alloc]; done) | (simp only [World.size_alloc]; omega) | simp))).mono ?_; rintro e w2 ⟨rfl, e2⟩
  have HX2 : Hid (Ext w w2) := Lib.hid ((HX1.out.alloc _).trans e2)
  have HB0_2 : Hid (Blk w2 (w.heap.size) #[.string (qs n.x), .string (qs n.y), .string (qs n.z)] 37) := Lib.hid (Blk.ext (HB0_1.out.alloc _) e2)
  have HB1_2 : Hid (Blk w2 (w.heap.size + 1) #[.string (qs a.x), .string (qs a.y)] 24) := Lib.hid (Blk.ext (HB1_1.out.alloc _) e2)
  have HB2_2 : Hid (Blk w2 (w1.heap.size) #[.string (qs n.x), .string (qs n.y), .string (qs n.z), .string (qs a.x), .string (qs a.y)] 22) := Lib.hid (Blk.ext (Blk.new' (w := _) (cs := #[.string (qs n.x), .string (qs n.y), .string (qs n.z), .string (qs a.x), .string (qs a.y)]) (t := 22) (by first | rfl | (simp only [World.size_alloc]; done) | (simp only [World.size_alloc]; omega) | simp)) e2)
  have HGEB2 : Hid (w.heap.size ≤ w1.heap.size) := Lib.hid (by have := HX1.out.size; first | omega | (simp only []; omega) | (simp; omega))
  clear e2 c0_0 c0_1 c0_2 c1_0 c1_1
  have c0_0 := HB0_2.out.cell 0 rfl
  have c0_1 := HB0_2.out.cell 1 rfl
  have c0_2 := HB0_2.out.cell 2 rfl
  go_wp2_with fail
  refine (agrad_ok n _ (HG.out.ext HX2.out) HN.out HN4.out HZ.out H0.out).mono ?_; rintro e w3 ⟨rfl, e3⟩
  have HX3 : Hid (Ext w w3) := Lib.hid (HX2.out.trans e3)
  have HB0_3 := Lib.hid (Blk.ext HB0_2.out e3)
  have HB1_3 := Lib.hid (Blk.ext HB1_2.out e3)
  clear e3 c0_0 c0_1 c0_2
  go_upto_region 4 with fail
  refine wp_name (fun W => Ext w W ∧ Blk W (w.heap.size) #[.string (qs n.x), .string (qs n.y), .string (qs n.z)] 37 ∧ Blk W (w.heap.size + 1) #[.string (qs a.x), .string (qs a.y)] 24 ∧ Blk W (w3.heap.size) #[.string (qs (-n.x / n.z)), .string (qs (-n.y / n.z))] 24) ⟨(HX3.out.alloc _), (HB0_3.out.alloc _), (HB1_3.out.alloc _), (Blk.new' (w := _) (cs := #[.string (qs (-n.x / n.z)), .string (qs (-n.y / n.z))]) (t := 24) (by first | rfl | (simp only [World.size_alloc]; done) | (simp only [World.size_alloc]; omega) | simp))⟩ ?_
  rintro w4 ⟨e4, bB0_4, bB1_4, bB3_4⟩
  have HX4 := Lib.hid e4; have HB0_4 := Lib.hid bB0_4; have HB1_4 := Lib.hid bB1_4; have HB3_4 := Lib.hid bB3_4
  have HGEB3 : Hid (w.heap.size ≤ w3.heap.size) := Lib.hid (by have := HX3.out.size; first | omega | (simp only []; omega) | (simp; omega))
  clear e4 bB0_4 bB1_4 bB3_4
  have c1_0 := HB1_4.out.cell 0 rfl
  have c1_1 := HB1_4.out.cell 1 rfl
  go_wp2_with fail
  refine (anorm_ok a _ (HG.out.ext HX4.out) HA2.out).mono ?_; rintro e w5 ⟨rfl, e5⟩
  have HX5 : Hid (Ext w w5) := Lib.hid (HX4.out.trans e5)
  have HB0_5 := Lib.hid (Blk.ext HB0_4.out e5)
  have HB1_5 := Lib.hid (Blk.ext HB1_4.out e5)
  have HB3_5 := Lib.hid (Blk.ext HB3_4.out e5)
  clear e5 c1_0 c1_1
  go_upto_region 5 with fail
  refine wp_name (fun W => Ext w W ∧ Blk W (w.heap.size) #[.string (qs n.x), .string (qs n.y), .string (qs n.z)] 37 ∧ Blk W (w.heap.size + 1) #[.string (qs a.x), .string (qs a.y)] 24 ∧ Blk W (w3.heap.size) #[.string (qs (-n.x / n.z)), .string (qs (-n.y / n.z))] 24 ∧ Blk W (w5.heap.size) #[.string (qs (-a.x)), .string (qs (-a.y)), .string ⟨#[49]⟩] 37) ⟨(HX5.out.alloc _), (HB0_5.out.alloc _), (HB1_5.out.alloc _), (HB3_5.out.alloc _), (Blk.new' (w := _) (cs := #[.string (qs (-a.x)), .string (qs (-a.y)), .string ⟨#[49]⟩]) (t := 37) (by first | rfl | (simp only [World.size_alloc]; done) | (simp only [World.size_alloc]; omega) | simp))⟩ ?_
  rintro w6 ⟨e6, bB0_6, bB1_6, bB3_6, bB4_6⟩
  have HX6 := Lib.hid e6; have HB0_6 := Lib.hid bB0_6; have HB1_6 := Lib.hid bB1_6; have HB3_6 := Lib.hid bB3_6; have HB4_6 := Lib.hid bB4_6
  have HGEB4 : Hid (w.heap.size ≤ w5.heap.size) := Lib.hid (by have := HX5.out.size; first | omega | (simp only []; omega) | (simp; omega))
  clear e6 bB0_6 bB1_6 bB3_6 bB4_6
  have c0_0 := HB0_6.out.cell 0 rfl
  have c0_1 := HB0_6.out.cell 1 rfl
  have c0_2 := HB0_6.out.cell 2 rfl
  go_wp2_with fail
  refine (lnorm_ok n _ (HG.out.ext HX6.out) HN.out HZ.out).mono ?_; rintro e w7 ⟨rfl, e7⟩
  have HX7 : Hid (Ext w w7) := Lib.hid (HX6.out.trans e7)
  have HB0_7 := Lib.hid (Blk.ext HB0_6.out e7)
  have HB1_7 := Lib.hid (Blk.ext HB1_6.out e7)
  have HB3_7 := Lib.hid (Blk.ext HB3_6.out e7)
  have HB4_7 := Lib.hid (Blk.ext HB4_6.out e7)
  clear e7 c0_0 c0_1 c0_2
  have c0_2 := HB0_7.out.cell 2 rfl
  go_wp2_with fail
  refine wp_name (fun W => Ext w W ∧ Blk W (w.heap.size) #[.string (qs n.x), .string (qs n.y), .string (qs n.z)] 37 ∧ Blk W (w.heap.size + 1) #[.string (qs a.x), .string (qs a.y)] 24 ∧ Blk W (w3.heap.size) #[.string (qs (-n.x / n.z)), .string (qs (-n.y / n.z))] 24 ∧ Blk W (w5.heap.size) #[.string (qs (-a.x)), .string (qs (-a.y)), .string ⟨#[49]⟩] 37) ⟨HX7.out, HB0_7.out, HB1_7.out, HB3_7.out, HB4_7.out⟩ ?_
  rintro w8 ⟨e8, bB0_8, bB1_8, bB3_8, bB4_8⟩
  have HX8 := Lib.hid e8; have HB0_8 := Lib.hid bB0_8; have HB1_8 := Lib.hid bB1_8; have HB3_8 := Lib.hid bB3_8; have HB4_8 := Lib.hid bB4_8
  clear e8 bB0_8 bB1_8 bB3_8 bB4_8 c0_2
  refine region_lin [.val (.int .i64 0), .val (.bool true), .val (.bool true), .val (.agg #[.string (qs (-n.x / n.z)), .string (qs (-n.y / n.z))]), .val (.pointer (some ⟨w.heap.size, 0, none⟩)), .val (.string (qs n.x)), .val (.pointer (some ⟨w.heap.size, 2, none⟩)), .val (.string (qs n.z)), .val (.string (qs (n.x / n.z))), .val (.string (qs (-(n.x / n.z)))), .val (.pointer (some ⟨w.heap.size, 1, none⟩)), .val (.string (qs n.y)), .val (.pointer (some ⟨w.heap.size, 2, none⟩)), .val (.string (qs n.z)), .val (.string (qs (n.y / n.z))), .val (.string (qs (-(n.y / n.z)))), .val (.agg #[.string (qs (-(n.x / n.z))), .string (qs (-(n.y / n.z)))]), .val (.bool false), .val (.bool false), .val (.int .i64 0), .val (.bool false), .val (.bool false), .val (.bool false)] (by kernel_rfl) (by kernel_rfl) (by kernel_rfl) ?_ (fun g8 w9 hx_ hm_ hne_ => ?_)
  · skip
    refine RnL.cons (fun g8 A_ W_ hs_ => ?_) ?_
    · have q9_ := (hs_.old 9 (by kernel_rfl) : A_.tmps[9]?.getD undef = .int .i64 0)
      refine Rn.val fun K_ hK_ => ?_
      go_simp
      exact hK_.out _ (Ext.refl _)
    refine RnL.cons (fun g8 A_ W_ hs_ => ?_) ?_
    · have q61_ := hs_.val 0 rfl rfl rfl
      refine Rn.val fun K_ hK_ => ?_
      go_simp
      exact hK_.out _ (Ext.refl _)
    refine RnL.cons (fun g8 A_ W_ hs_ => ?_) ?_
    · have q62_ := hs_.val 1 rfl rfl rfl
      refine Rn.val fun K_ hK_ => ?_
      go_simp
      exact hK_.out _ (Ext.refl _)
    refine RnL.cons (fun g8 A_ W_ hs_ => ?_) ?_
    · have q5_ := (hs_.old 5 (by kernel_rfl) : A_.tmps[5]?.getD undef = .pointer (some ⟨w3.heap.size, 0, none⟩))
      have cB3_0 := ((HB3_8.out.drew.ext hs_.1)).cell 0 rfl
      have cB3_1 := ((HB3_8.out.drew.ext hs_.1)).cell 1 rfl
      refine Rn.val fun K_ hK_ => ?_
      go_simp
      exact hK_.out _ (Ext.refl _)
    refine RnL.cons (fun g8 A_ W_ hs_ => ?_) ?_
    · have q2_ := (hs_.old 2 (by kernel_rfl) : A_.tmps[2]?.getD undef = .pointer (some ⟨w.heap.size, 0, none⟩))
      refine Rn.val fun K_ hK_ => ?_
      go_simp
      exact hK_.out _ (Ext.refl _)
    refine RnL.cons (fun g8 A_ W_ hs_ => ?_) ?_
    · have q65_ := hs_.val 4 rfl rfl rfl
      have cB0_0 := ((HB0_8.out.drew.ext hs_.1)).cell 0 rfl
      refine Rn.val fun K_ hK_ => ?_
      go_simp
      exact hK_.out _ (Ext.refl _)
    refine RnL.cons (fun g8 A_ W_ hs_ => ?_) ?_
    · have q2_ := (hs_.old 2 (by kernel_rfl) : A_.tmps[2]?.getD undef = .pointer (some ⟨w.heap.size, 0, none⟩))
      refine Rn.val fun K_ hK_ => ?_
      go_simp
      exact hK_.out _ (Ext.refl _)
    refine RnL.cons (fun g8 A_ W_ hs_ => ?_) ?_
    · have q67_ := hs_.val 6 rfl rfl rfl
      have cB0_2 := ((HB0_8.out.drew.ext hs_.1)).cell 2 rfl
      refine Rn.val fun K_ hK_ => ?_
      go_simp
      exact hK_.out _ (Ext.refl _)
    refine RnL.cons (fun g8 A_ W_ hs_ => ?_) ?_
    · have q66_ := hs_.val 5 rfl rfl rfl
      have q68_ := hs_.val 7 rfl rfl rfl
      refine Rn.val fun K_ hK_ => ?_
      go_simp
      refine (ldiv_c n.x n.z _ (HG.out.ext (HX8.out.drew.trans hs_.1)) HN4.out.x HN4.out.z (by omega) (by omega) (by omega) H0.out).mono ?_; rintro e W9_ ⟨rfl, e9_⟩; exact hK_.out _ e9_
    refine RnL.cons (fun g8 A_ W_ hs_ => ?_) ?_
    · have q69_ := hs_.val 8 rfl rfl rfl
      refine Rn.val fun K_ hK_ => ?_
      go_simp
      refine (rneg_c (n.x / n.z) _ (HN4.out.x.div HN4.out.z (by decide)) (by omega)).mono ?_; rintro e W9_ ⟨rfl, e9_⟩; exact hK_.out _ e9_
    refine RnL.cons (fun g8 A_ W_ hs_ => ?_) ?_
    · have q2_ := (hs_.old 2 (by kernel_rfl) : A_.tmps[2]?.getD undef = .pointer (some ⟨w.heap.size, 0, none⟩))
      refine Rn.val fun K_ hK_ => ?_
      go_simp
      exact hK_.out _ (Ext.refl _)
    refine RnL.cons (fun g8 A_ W_ hs_ => ?_) ?_
    · have q71_ := hs_.val 10 rfl rfl rfl
      have cB0_1 := ((HB0_8.out.drew.ext hs_.1)).cell 1 rfl
      refine Rn.val fun K_ hK_ => ?_
      go_simp
      exact hK_.out _ (Ext.refl _)
    refine RnL.cons (fun g8 A_ W_ hs_ => ?_) ?_
    · have q2_ := (hs_.old 2 (by kernel_rfl) : A_.tmps[2]?.getD undef = .pointer (some ⟨w.heap.size, 0, none⟩))
      refine Rn.val fun K_ hK_ => ?_
      go_simp
      exact hK_.out _ (Ext.refl _)
    refine RnL.cons (fun g8 A_ W_ hs_ => ?_) ?_
    · have q73_ := hs_.val 12 rfl rfl rfl
      have cB0_2 := ((HB0_8.out.drew.ext hs_.1)).cell 2 rfl
      refine Rn.val fun K_ hK_ => ?_
      go_simp
      exact hK_.out _ (Ext.refl _)
    refine RnL.cons (fun g8 A_ W_ hs_ => ?_) ?_
    · have q72_ := hs_.val 11 rfl rfl rfl
      have q74_ := hs_.val 13 rfl rfl rfl
      refine Rn.val fun K_ hK_ => ?_
      go_simp
      refine (ldiv_c n.y n.z _ (HG.out.ext (HX8.out.drew.trans hs_.1)) HN4.out.y HN4.out.z (by omega) (by omega) (by omega) H0.out).mono ?_; rintro e W9_ ⟨rfl, e9_⟩; exact hK_.out _ e9_
    refine RnL.cons (fun g8 A_ W_ hs_ => ?_) ?_
    · have q75_ := hs_.val 14 rfl rfl rfl
      refine Rn.val fun K_ hK_ => ?_
      go_simp
      refine (rneg_c (n.y / n.z) _ (HN4.out.y.div HN4.out.z (by decide)) (by omega)).mono ?_; rintro e W9_ ⟨rfl, e9_⟩; exact hK_.out _ e9_
    refine RnL.cons (fun g8 A_ W_ hs_ => ?_) ?_
    · have q70_ := hs_.val 9 rfl rfl rfl
      have q76_ := hs_.val 15 rfl rfl rfl
      refine Rn.val fun K_ hK_ => ?_
      go_simp
      exact hK_.out _ (Ext.refl _)
    refine RnL.cons (fun g8 A_ W_ hs_ => ?_) ?_
    · have q64_ := hs_.val 3 rfl rfl rfl
      have q77_ := hs_.val 16 rfl rfl rfl
      refine Rn.val fun K_ hK_ => ?_
      go_simp
      exact hK_.out _ (Ext.refl _)
    refine RnL.cons (fun g8 A_ W_ hs_ => ?_) ?_
    · have q78_ := hs_.val 17 rfl rfl rfl
      refine Rn.val fun K_ hK_ => ?_
      go_simp
      exact hK_.out _ (Ext.refl _)
    refine RnL.cons (fun g8 A_ W_ hs_ => ?_) ?_
    · have q6_ := (hs_.old 6 (by kernel_rfl) : A_.tmps[6]?.getD undef = .int .i64 0)
      refine Rn.val fun K_ hK_ => ?_
      go_simp
      exact hK_.out _ (Ext.refl _)
    refine RnL.cons (fun g8 A_ W_ hs_ => ?_) ?_
    · have q80_ := hs_.val 19 rfl rfl rfl
      refine Rn.val fun K_ hK_ => ?_
      go_simp
      exact hK_.out _ (Ext.refl _)
    refine RnL.cons (fun g8 A_ W_ hs_ => ?_) ?_
    · have q79_ := hs_.val 18 rfl rfl rfl
      have q81_ := hs_.val 20 rfl rfl rfl
      refine Rn.val fun K_ hK_ => ?_
      go_simp
      exact hK_.out _ (Ext.refl _)
    refine RnL.cons (fun g8 A_ W_ hs_ => ?_) ?_
    · have q63_ := hs_.val 2 rfl rfl rfl
      have q82_ := hs_.val 21 rfl rfl rfl
      refine Rn.val fun K_ hK_ => ?_
      go_simp
      exact hK_.out _ (Ext.refl _)
    exact RnL.nil
  simp only [fs, Kd.value, puts, Act.put, List.setIfInBounds_toArray, List.set_cons_zero, List.set_cons_succ]
  have HX9 : Hid (Ext w w9) := Lib.hid (HX8.out.drew.trans hx_)
  have HB1_9 := Lib.hid (HB1_8.out.drew.ext hx_)
  have HB4_9 := Lib.hid (HB4_8.out.drew.ext hx_)
  clear hx_ hm_ hne_
  have c1_0 := HB1_9.out.cell 0 rfl
  have c1_1 := HB1_9.out.cell 1 rfl
  go_wp2_with fail
  refine (right15_b [qs a.x, qs a.y] 2 (w9.heap.size) true _ (HG.out.ext (HX9.out.alloc _)) rfl (by decide) HL2.out HRT.out (Blk.new' (w := _) (cs := #[.string (qs a.x), .string (qs a.y)]) (t := 22) (by first | rfl | (simp only [World.size_alloc]; done) | (simp only [World.size_alloc]; omega) | simp))).mono ?_; rintro e w10 ⟨rfl, e10⟩
  have HX10 : Hid (Ext w w10) := Lib.hid ((HX9.out.alloc _).trans e10)
  have HB1_10 : Hid (Blk w10 (w.heap.size + 1) #[.string (qs a.x), .string (qs a.y)] 24) := Lib.hid (Blk.ext (HB1_9.out.alloc _) e10)
  have HB4_10 : Hid (Blk w10 (w5.heap.size) #[.string (qs (-a.x)), .string (qs (-a.y)), .string ⟨#[49]⟩] 37) := Lib.hid (Blk.ext (HB4_9.out.alloc _) e10)
  have HB5_10 : Hid (Blk w10 (w9.heap.size) #[.string (qs a.x), .string (qs a.y)] 22) := Lib.hid (Blk.ext (Blk.new' (w := _) (cs := #[.string (qs a.x), .string (qs a.y)]) (t := 22) (by first | rfl | (simp only [World.size_alloc]; done) | (simp only [World.size_alloc]; omega) | simp)) e10)
  have HGEB5 : Hid (w.heap.size ≤ w9.heap.size) := Lib.hid (by have := HX9.out.size; first | omega | (simp only []; omega) | (simp; omega))
  clear e10 c1_0 c1_1
  have c4_0 := HB4_10.out.cell 0 rfl
  have c4_1 := HB4_10.out.cell 1 rfl
  have c4_2 := HB4_10.out.cell 2 rfl
  go_wp2_with fail
  refine (grad_back a _ (HG.out.ext HX10.out) HA4.out).mono ?_; rintro e w11 ⟨rfl, e11⟩
  have HX11 : Hid (Ext w w11) := Lib.hid (HX10.out.trans e11)
  have HB1_11 := Lib.hid (Blk.ext HB1_10.out e11)
  have HB4_11 := Lib.hid (Blk.ext HB4_10.out e11)
  clear e11 c4_0 c4_1 c4_2
  go_wp2_with fail
  refine wp_name (fun W => Ext w W ∧ Blk W (w.heap.size + 1) #[.string (qs a.x), .string (qs a.y)] 24 ∧ Blk W (w5.heap.size) #[.string (qs (-a.x)), .string (qs (-a.y)), .string ⟨#[49]⟩] 37 ∧ Blk W (w11.heap.size) #[.string (qs a.x), .string (qs a.y)] 24) ⟨(HX11.out.alloc _), (HB1_11.out.alloc _), (HB4_11.out.alloc _), (Blk.new' (w := _) (cs := #[.string (qs a.x), .string (qs a.y)]) (t := 24) (by first | rfl | (simp only [World.size_alloc]; done) | (simp only [World.size_alloc]; omega) | simp))⟩ ?_
  rintro w12 ⟨e12, bB1_12, bB4_12, bB6_12⟩
  have HX12 := Lib.hid e12; have HB1_12 := Lib.hid bB1_12; have HB4_12 := Lib.hid bB4_12; have HB6_12 := Lib.hid bB6_12
  have HGEB6 : Hid (w.heap.size ≤ w11.heap.size) := Lib.hid (by have := HX11.out.size; first | omega | (simp only []; omega) | (simp; omega))
  clear e12 bB1_12 bB4_12 bB6_12
  refine region_lin [.val (.agg #[.string (qs (-a.x)), .string (qs (-a.y)), .string ⟨#[49]⟩]), .val (.pointer (some ⟨w.heap.size + 1, 0, none⟩)), .val (.string (qs a.x)), .val (.string (qs (-a.x))), .val (.pointer (some ⟨w.heap.size + 1, 1, none⟩)), .val (.string (qs a.y)), .val (.string (qs (-a.y))), .val (.agg #[.string (qs (-a.x)), .string (qs (-a.y)), .string ⟨#[49]⟩]), .val (.bool true), .val (.bool true), .val (.int .i64 0), .val (.bool true), .val (.bool true), .val (.bool true), .val (.agg #[.string (qs a.x), .string (qs a.y)]), .val (.agg #[.string (qs a.x), .string (qs a.y)]), .val (.bool true), .val (.bool true), .val (.bool true), .val (.int .i64 0), .val (.bool true), .val (.bool true), .val (.bool true)] (by kernel_rfl) (by kernel_rfl) (by kernel_rfl) ?_ (fun g12 w13 hx_ hm_ hne_ => ?_)
  · skip
    refine RnL.cons (fun g12 A_ W_ hs_ => ?_) ?_
    · have q7_ := (hs_.old 7 (by kernel_rfl) : A_.tmps[7]?.getD undef = .pointer (some ⟨w5.heap.size, 0, none⟩))
      have cB4_0 := ((HB4_12.out.drew.ext hs_.1)).cell 0 rfl
      have cB4_1 := ((HB4_12.out.drew.ext hs_.1)).cell 1 rfl
      have cB4_2 := ((HB4_12.out.drew.ext hs_.1)).cell 2 rfl
      refine Rn.val fun K_ hK_ => ?_
      go_simp
      exact hK_.out _ (Ext.refl _)
    refine RnL.cons (fun g12 A_ W_ hs_ => ?_) ?_
    · have q3_ := (hs_.old 3 (by kernel_rfl) : A_.tmps[3]?.getD undef = .pointer (some ⟨w.heap.size + 1, 0, none⟩))
      refine Rn.val fun K_ hK_ => ?_
      go_simp
      exact hK_.out _ (Ext.refl _)
    refine RnL.cons (fun g12 A_ W_ hs_ => ?_) ?_
    · have q104_ := hs_.val 1 rfl rfl rfl
      have cB1_0 := ((HB1_12.out.drew.ext hs_.1)).cell 0 rfl
      refine Rn.val fun K_ hK_ => ?_
      go_simp
      exact hK_.out _ (Ext.refl _)
    refine RnL.cons (fun g12 A_ W_ hs_ => ?_) ?_
    · have q105_ := hs_.val 2 rfl rfl rfl
      refine Rn.val fun K_ hK_ => ?_
      go_simp
      refine (rneg_c a.x _ HA4.out.x (by omega)).mono ?_; rintro e W9_ ⟨rfl, e9_⟩; exact hK_.out _ e9_
    refine RnL.cons (fun g12 A_ W_ hs_ => ?_) ?_
    · have q3_ := (hs_.old 3 (by kernel_rfl) : A_.tmps[3]?.getD undef = .pointer (some ⟨w.heap.size + 1, 0, none⟩))
      refine Rn.val fun K_ hK_ => ?_
      go_simp
      exact hK_.out _ (Ext.refl _)
    refine RnL.cons (fun g12 A_ W_ hs_ => ?_) ?_
    · have q107_ := hs_.val 4 rfl rfl rfl
      have cB1_1 := ((HB1_12.out.drew.ext hs_.1)).cell 1 rfl
      refine Rn.val fun K_ hK_ => ?_
      go_simp
      exact hK_.out _ (Ext.refl _)
    refine RnL.cons (fun g12 A_ W_ hs_ => ?_) ?_
    · have q108_ := hs_.val 5 rfl rfl rfl
      refine Rn.val fun K_ hK_ => ?_
      go_simp
      refine (rneg_c a.y _ HA4.out.y (by omega)).mono ?_; rintro e W9_ ⟨rfl, e9_⟩; exact hK_.out _ e9_
    refine RnL.cons (fun g12 A_ W_ hs_ => ?_) ?_
    · have q106_ := hs_.val 3 rfl rfl rfl
      have q109_ := hs_.val 6 rfl rfl rfl
      refine Rn.val fun K_ hK_ => ?_
      go_simp
      exact hK_.out _ (Ext.refl _)
    refine RnL.cons (fun g12 A_ W_ hs_ => ?_) ?_
    · have q103_ := hs_.val 0 rfl rfl rfl
      have q110_ := hs_.val 7 rfl rfl rfl
      refine Rn.val fun K_ hK_ => ?_
      go_simp
      exact hK_.out _ (Ext.refl _)
    refine RnL.cons (fun g12 A_ W_ hs_ => ?_) ?_
    · have q111_ := hs_.val 8 rfl rfl rfl
      refine Rn.val fun K_ hK_ => ?_
      go_simp
      exact hK_.out _ (Ext.refl _)
    refine RnL.cons (fun g12 A_ W_ hs_ => ?_) ?_
    · have q8_ := (hs_.old 8 (by kernel_rfl) : A_.tmps[8]?.getD undef = .int .i64 0)
      refine Rn.val fun K_ hK_ => ?_
      go_simp
      exact hK_.out _ (Ext.refl _)
    refine RnL.cons (fun g12 A_ W_ hs_ => ?_) ?_
    · have q113_ := hs_.val 10 rfl rfl rfl
      refine Rn.val fun K_ hK_ => ?_
      go_simp
      exact hK_.out _ (Ext.refl _)
    refine RnL.cons (fun g12 A_ W_ hs_ => ?_) ?_
    · have q112_ := hs_.val 9 rfl rfl rfl
      have q114_ := hs_.val 11 rfl rfl rfl
      refine Rn.val fun K_ hK_ => ?_
      go_simp
      exact hK_.out _ (Ext.refl _)
    refine RnL.cons (fun g12 A_ W_ hs_ => ?_) ?_
    · have q115_ := hs_.val 12 rfl rfl rfl
      refine Rn.val fun K_ hK_ => ?_
      go_simp
      exact hK_.out _ (Ext.refl _)
    refine RnL.cons (fun g12 A_ W_ hs_ => ?_) ?_
    · have q10_ := (hs_.old 10 (by kernel_rfl) : A_.tmps[10]?.getD undef = .pointer (some ⟨w11.heap.size, 0, none⟩))
      have cB6_0 := ((HB6_12.out.drew.ext hs_.1)).cell 0 rfl
      have cB6_1 := ((HB6_12.out.drew.ext hs_.1)).cell 1 rfl
      refine Rn.val fun K_ hK_ => ?_
      go_simp
      exact hK_.out _ (Ext.refl _)
    refine RnL.cons (fun g12 A_ W_ hs_ => ?_) ?_
    · have q3_ := (hs_.old 3 (by kernel_rfl) : A_.tmps[3]?.getD undef = .pointer (some ⟨w.heap.size + 1, 0, none⟩))
      have cB1_0 := ((HB1_12.out.drew.ext hs_.1)).cell 0 rfl
      have cB1_1 := ((HB1_12.out.drew.ext hs_.1)).cell 1 rfl
      refine Rn.val fun K_ hK_ => ?_
      go_simp
      exact hK_.out _ (Ext.refl _)
    refine RnL.cons (fun g12 A_ W_ hs_ => ?_) ?_
    · have q117_ := hs_.val 14 rfl rfl rfl
      have q118_ := hs_.val 15 rfl rfl rfl
      refine Rn.val fun K_ hK_ => ?_
      go_simp
      exact hK_.out _ (Ext.refl _)
    refine RnL.cons (fun g12 A_ W_ hs_ => ?_) ?_
    · have q116_ := hs_.val 13 rfl rfl rfl
      have q119_ := hs_.val 16 rfl rfl rfl
      refine Rn.val fun K_ hK_ => ?_
      go_simp
      exact hK_.out _ (Ext.refl _)
    refine RnL.cons (fun g12 A_ W_ hs_ => ?_) ?_
    · have q120_ := hs_.val 17 rfl rfl rfl
      refine Rn.val fun K_ hK_ => ?_
      go_simp
      exact hK_.out _ (Ext.refl _)
    refine RnL.cons (fun g12 A_ W_ hs_ => ?_) ?_
    · have q11_ := (hs_.old 11 (by kernel_rfl) : A_.tmps[11]?.getD undef = .int .i64 0)
      refine Rn.val fun K_ hK_ => ?_
      go_simp
      exact hK_.out _ (Ext.refl _)
    refine RnL.cons (fun g12 A_ W_ hs_ => ?_) ?_
    · have q122_ := hs_.val 19 rfl rfl rfl
      refine Rn.val fun K_ hK_ => ?_
      go_simp
      exact hK_.out _ (Ext.refl _)
    refine RnL.cons (fun g12 A_ W_ hs_ => ?_) ?_
    · have q121_ := hs_.val 18 rfl rfl rfl
      have q123_ := hs_.val 20 rfl rfl rfl
      refine Rn.val fun K_ hK_ => ?_
      go_simp
      exact hK_.out _ (Ext.refl _)
    refine RnL.cons (fun g12 A_ W_ hs_ => ?_) ?_
    · have q124_ := hs_.val 21 rfl rfl rfl
      refine Rn.val fun K_ hK_ => ?_
      go_simp
      exact hK_.out _ (Ext.refl _)
    exact RnL.nil
  simp only [fs, Kd.value, puts, Act.put, List.setIfInBounds_toArray, List.set_cons_zero, List.set_cons_succ]
  have HX13 : Hid (Ext w w13) := Lib.hid (HX12.out.drew.trans hx_)
  clear hx_ hm_ hne_
  go_wp2
  go_ret
  exact ⟨rfl, HX13.out⟩

theorem grad15_walk (n : T3) (a : T2) (w : World) (g : Gd w) : Calls Tryz.prog 6 #[tv n, tp a] w (Ret w (.bool true)) := by
  cases hs : [n.x, n.y, n.z, a.x, a.y].all sz24 with
  | false => exact grad15_L n a w g hs
  | true =>
    cases ha : a.l.all rq with
    | false =>
      cases r : n.l.all rq with
      | false => exact grad15_EE n a w g hs r ha
      | true =>
        obtain ⟨v, rfl, hv⟩ := right_v r
        by_cases hz : v.x = 0 ∧ v.y = 0 ∧ v.z = 0
        · exact grad15_ZE v a w g hs hv hz ha
        · by_cases h0 : v.z = 0
          · exact grad15_UE v a w g hs hv hz ha h0
          · exact grad15_RE v a w g hs hv hz ha h0
    | true =>
      obtain ⟨p, rfl, hp⟩ := right_p ha
      cases r : n.l.all rq with
      | false => exact grad15_ER n p w g hs r
      | true =>
        obtain ⟨v, rfl, hv⟩ := right_v r
        by_cases hz : v.x = 0 ∧ v.y = 0 ∧ v.z = 0
        · exact grad15_ZR v p w g hs hv hz
        · by_cases h0 : v.z = 0
          · exact grad15_UR v p w g hs hv hz h0
          · exact grad15_RR v p w g hs hv hz h0
end Go.Proofs.YtplimbgaoengfaaGreatDoor
