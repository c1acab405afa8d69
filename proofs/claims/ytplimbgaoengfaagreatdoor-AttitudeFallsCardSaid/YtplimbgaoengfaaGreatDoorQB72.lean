/- Part 72 of the proof: N10d. -/
import Derived.Test.YtplimbgaoengfaaGreatDoorQB1
import Derived.Test.YtplimbgaoengfaaGreatDoorQB2
import Derived.Test.YtplimbgaoengfaaGreatDoorQB3
import Derived.Test.YtplimbgaoengfaaGreatDoorQB4
import Derived.Test.YtplimbgaoengfaaGreatDoorQB5
import Derived.Test.YtplimbgaoengfaaGreatDoorQB6
import Derived.Test.YtplimbgaoengfaaGreatDoorQB7
import Derived.Test.YtplimbgaoengfaaGreatDoorQB8
import Derived.Test.YtplimbgaoengfaaGreatDoorQB9
import Derived.Test.YtplimbgaoengfaaGreatDoorQB10
import Derived.Test.YtplimbgaoengfaaGreatDoorQB11
import Derived.Test.YtplimbgaoengfaaGreatDoorQB12
import Derived.Test.YtplimbgaoengfaaGreatDoorQB13
import Derived.Test.YtplimbgaoengfaaGreatDoorQB14
import Derived.Test.YtplimbgaoengfaaGreatDoorQB15
import Derived.Test.YtplimbgaoengfaaGreatDoorQB16
import Derived.Test.YtplimbgaoengfaaGreatDoorQB17
import Derived.Test.YtplimbgaoengfaaGreatDoorQB18
import Derived.Test.YtplimbgaoengfaaGreatDoorQB19
import Derived.Test.YtplimbgaoengfaaGreatDoorQB20
import Derived.Test.YtplimbgaoengfaaGreatDoorQB21
import Derived.Test.YtplimbgaoengfaaGreatDoorQB22
import Derived.Test.YtplimbgaoengfaaGreatDoorQB23
import Derived.Test.YtplimbgaoengfaaGreatDoorQB24
import Derived.Test.YtplimbgaoengfaaGreatDoorQB25
import Derived.Test.YtplimbgaoengfaaGreatDoorQB26
import Derived.Test.YtplimbgaoengfaaGreatDoorQB27
import Derived.Test.YtplimbgaoengfaaGreatDoorQB28
import Derived.Test.YtplimbgaoengfaaGreatDoorQB29
import Derived.Test.YtplimbgaoengfaaGreatDoorQB30
import Derived.Test.YtplimbgaoengfaaGreatDoorQB31
import Derived.Test.YtplimbgaoengfaaGreatDoorQB33
import Derived.Test.YtplimbgaoengfaaGreatDoorQB39
import Derived.Test.YtplimbgaoengfaaGreatDoorQB50
import Derived.Test.YtplimbgaoengfaaGreatDoorQB51
import Derived.Test.YtplimbgaoengfaaGreatDoorQB58
import Derived.Test.YtplimbgaoengfaaGreatDoorQB59
import Derived.Test.YtplimbgaoengfaaGreatDoorQB64
import Derived.Test.YtplimbgaoengfaaGreatDoorQB68
namespace Go.Proofs.YtplimbgaoengfaaGreatDoor
open Go Go.RowKit
set_option linter.unusedVariables false
set_option maxRecDepth 100000 in
set_option maxHeartbeats 16000000 in
theorem falls15_ND (n : T3) (a : P2) (b : P2) (p q : Rat) (en ea eb : Int) (w : World) (g : Gd w) (hsz : [n.x, n.y, n.z, qs a.x, qs a.y, qs p, qs b.x, qs b.y, qs q].all sz24 = true) (hen : NErr n en) (hea : HErr ⟨qs a.x, qs a.y⟩ 0) (hen0 : en ≠ 0) (heb : HErr ⟨qs b.x, qs b.y⟩ 0) (hd : a.x * b.y - a.y * b.x = 0) : Calls Tryz.prog 7 #[.agg #[.string n.x, .string n.y, .string n.z], .agg #[.string (qs a.x), .string (qs a.y), .string (qs p)], .agg #[.string (qs b.x), .string (qs b.y), .string (qs q)]] w (Ret w (.bool true)) := by
  have HEN := Lib.hid hen
  have HEA := Lib.hid hea
  have HEB := Lib.hid heb
  have HG := Lib.hid g
  clear hen hea heb g
  have HSZ := Lib.hid hsz
  simp only [List.all_cons, List.all_nil, Bool.and_true, Bool.and_eq_true, sz24_true] at hsz
  obtain ⟨s0, s1, s2, s3, s4, s5, s6, s7, s8⟩ := hsz
  have HEN0 := Lib.hid hen0
  have en_d : (en != 0) = true := bne_iff_ne.2 hen0
  have en_e : (en == 0) = false := beq_eq_false_iff_ne.2 hen0
  clear hen0
  have HA4 : Hid (PB 24 a) := Lib.hid ⟨qb_of_size s3, qb_of_size s4⟩
  have HP : Hid (QB 24 p) := Lib.hid (qb_of_size s5); have HB4 : Hid (PB 24 b) := Lib.hid ⟨qb_of_size s6, qb_of_size s7⟩; have HQ : Hid (QB 24 q) := Lib.hid (qb_of_size s8)
  clear s0 s1 s2 s3 s4 s5 s6 s7 s8
  have hc_d : (qcmp (a.x * b.y) (a.y * b.x) == 0) = true := beq_iff_eq.2 (qcmp_zero (by grind))
  have HD := Lib.hid hd; clear hd
  go_enter Tryz.func7, Tryz.ntmps7
  go_wp2_with fail
  refine (known15_c _ (HG.out.ext ((((Ext.refl w).alloc _).alloc _).alloc _))).mono ?_; rintro e w1 ⟨rfl, e1⟩
  have HX1 : Hid (Ext w w1) := Lib.hid (((((Ext.refl w).alloc _).alloc _).alloc _).trans e1)
  have HB0_1 : Hid (Blk w1 (w.heap.size) #[.string n.x, .string n.y, .string n.z] 37) := Lib.hid (Blk.ext (((Blk.new' (w := _) (cs := #[.string n.x, .string n.y, .string n.z]) (t := 37) (by first | rfl | (simp only [World.size_alloc]; done) | (simp only [World.size_alloc]; omega) | simp)).alloc _).alloc _) e1)
  have HB1_1 : Hid (Blk w1 (w.heap.size + 1) #[.string (qs a.x), .string (qs a.y), .string (qs p)] 55) := Lib.hid (Blk.ext ((Blk.new' (w := _) (cs := #[.string (qs a.x), .string (qs a.y), .string (qs p)]) (t := 55) (by first | rfl | (simp only [World.size_alloc]; done) | (simp only [World.size_alloc]; omega) | simp)).alloc _) e1)
  have HB2_1 : Hid (Blk w1 (w.heap.size + 1 + 1) #[.string (qs b.x), .string (qs b.y), .string (qs q)] 55) := Lib.hid (Blk.ext (Blk.new' (w := _) (cs := #[.string (qs b.x), .string (qs b.y), .string (qs q)]) (t := 55) (by first | rfl | (simp only [World.size_alloc]; done) | (simp only [World.size_alloc]; omega) | simp)) e1)
  have HGEB0 : Hid (w.heap.size ≤ w.heap.size) := Lib.hid (by first | omega | (simp only []; omega) | (simp; omega))
  have HGEB1 : Hid (w.heap.size ≤ w.heap.size + 1) := Lib.hid (by first | omega | (simp only []; omega) | (simp; omega))
  have HGEB2 : Hid (w.heap.size ≤ w.heap.size + 1 + 1) := Lib.hid (by first | omega | (simp only []; omega) | (simp; omega))
  clear e1
  have c0_0 := HB0_1.out.cell 0 rfl
  have c0_1 := HB0_1.out.cell 1 rfl
  have c0_2 := HB0_1.out.cell 2 rfl
  have c1_0 := HB1_1.out.cell 0 rfl
  have c1_1 := HB1_1.out.cell 1 rfl
  have c1_2 := HB1_1.out.cell 2 rfl
  have c2_0 := HB2_1.out.cell 0 rfl
  have c2_1 := HB2_1.out.cell 1 rfl
  have c2_2 := HB2_1.out.cell 2 rfl
  go_wp2_with fail
  refine (short15_b [n.x, n.y, n.z, qs a.x, qs a.y, qs p, qs b.x, qs b.y, qs q] 9 (w1.heap.size) true _ rfl (by decide) HSZ.out (Blk.new' (w := _) (cs := #[.string n.x, .string n.y, .string n.z, .string (qs a.x), .string (qs a.y), .string (qs p), .string (qs b.x), .string (qs b.y), .string (qs q)]) (t := 22) (by first | rfl | (simp only [World.size_alloc]; done) | (simp only [World.size_alloc]; omega) | simp))).mono ?_; rintro e w2 ⟨rfl, e2⟩
  have HX2 : Hid (Ext w w2) := Lib.hid ((HX1.out.alloc _).trans e2)
  have HB0_2 : Hid (Blk w2 (w.heap.size) #[.string n.x, .string n.y, .string n.z] 37) := Lib.hid (Blk.ext (HB0_1.out.alloc _) e2)
  have HB1_2 : Hid (Blk w2 (w.heap.size + 1) #[.string (qs a.x), .string (qs a.y), .string (qs p)] 55) := Lib.hid (Blk.ext (HB1_1.out.alloc _) e2)
  have HB2_2 : Hid (Blk w2 (w.heap.size + 1 + 1) #[.string (qs b.x), .string (qs b.y), .string (qs q)] 55) := Lib.hid (Blk.ext (HB2_1.out.alloc _) e2)
  have HB3_2 : Hid (Blk w2 (w1.heap.size) #[.string n.x, .string n.y, .string n.z, .string (qs a.x), .string (qs a.y), .string (qs p), .string (qs b.x), .string (qs b.y), .string (qs q)] 22) := Lib.hid (Blk.ext (Blk.new' (w := _) (cs := #[.string n.x, .string n.y, .string n.z, .string (qs a.x), .string (qs a.y), .string (qs p), .string (qs b.x), .string (qs b.y), .string (qs q)]) (t := 22) (by first | rfl | (simp only [World.size_alloc]; done) | (simp only [World.size_alloc]; omega) | simp)) e2)
  have HGEB3 : Hid (w.heap.size ≤ w1.heap.size) := Lib.hid (by have := HX1.out.size; first | omega | (simp only []; omega) | (simp; omega))
  clear e2 c0_0 c0_1 c0_2 c1_0 c1_1 c1_2 c2_0 c2_1 c2_2
  have c0_0 := HB0_2.out.cell 0 rfl
  have c0_1 := HB0_2.out.cell 1 rfl
  have c0_2 := HB0_2.out.cell 2 rfl
  have c1_0 := HB1_2.out.cell 0 rfl
  have c1_1 := HB1_2.out.cell 1 rfl
  go_wp2_with fail
  refine (aapp_n n ⟨qs a.x, qs a.y⟩ en _ (HG.out.ext HX2.out) HEN.out HEN0.out).mono ?_; rintro e w3 ⟨rfl, e3⟩
  have HX3 : Hid (Ext w w3) := Lib.hid (HX2.out.trans e3)
  have HB0_3 := Lib.hid (Blk.ext HB0_2.out e3)
  have HB1_3 := Lib.hid (Blk.ext HB1_2.out e3)
  have HB2_3 := Lib.hid (Blk.ext HB2_2.out e3)
  clear e3 c0_0 c0_1 c0_2 c1_0 c1_1
  have c0_0 := HB0_3.out.cell 0 rfl
  have c0_1 := HB0_3.out.cell 1 rfl
  have c0_2 := HB0_3.out.cell 2 rfl
  go_wp2_with fail
  refine (lnorm_l (t := n) _ (HG.out.ext HX3.out) HEN.out).mono ?_; rintro e w4 ⟨rfl, e4⟩
  have HX4 : Hid (Ext w w4) := Lib.hid (HX3.out.trans e4)
  have HB1_4 := Lib.hid (Blk.ext HB1_3.out e4)
  have HB2_4 := Lib.hid (Blk.ext HB2_3.out e4)
  clear e4 c0_0 c0_1 c0_2
  have c1_0 := HB1_4.out.cell 0 rfl
  have c1_1 := HB1_4.out.cell 1 rfl
  have c1_2 := HB1_4.out.cell 2 rfl
  have c2_0 := HB2_4.out.cell 0 rfl
  have c2_1 := HB2_4.out.cell 1 rfl
  have c2_2 := HB2_4.out.cell 2 rfl
  go_wp2_with fail
  refine (atrue_d a b p q _ (HG.out.ext HX4.out) HA4.out HB4.out HP.out HQ.out HEA.out HEB.out HD.out).mono ?_; rintro e w5 ⟨rfl, e5⟩
  have HX5 : Hid (Ext w w5) := Lib.hid (HX4.out.trans e5)
  have HB1_5 := Lib.hid (Blk.ext HB1_4.out e5)
  have HB2_5 := Lib.hid (Blk.ext HB2_4.out e5)
  clear e5 c1_0 c1_1 c1_2 c2_0 c2_1 c2_2
  go_upto_region 15 with fail
  refine wp_name (fun W => Ext w W ∧ Blk W (w.heap.size + 1) #[.string (qs a.x), .string (qs a.y), .string (qs p)] 55 ∧ Blk W (w.heap.size + 1 + 1) #[.string (qs b.x), .string (qs b.y), .string (qs q)] 55 ∧ Blk W (w5.heap.size) #[.string ⟨#[]⟩, .string ⟨#[]⟩, .string ⟨#[]⟩] 37) ⟨(HX5.out.alloc _), (HB1_5.out.alloc _), (HB2_5.out.alloc _), (Blk.new' (w := _) (cs := #[.string ⟨#[]⟩, .string ⟨#[]⟩, .string ⟨#[]⟩]) (t := 37) (by first | rfl | (simp only [World.size_alloc]; done) | (simp only [World.size_alloc]; omega) | simp))⟩ ?_
  rintro w6 ⟨e6, bB1_6, bB2_6, bB4_6⟩
  have HX6 := Lib.hid e6; have HB1_6 := Lib.hid bB1_6; have HB2_6 := Lib.hid bB2_6; have HB4_6 := Lib.hid bB4_6
  have HGEB4 : Hid (w.heap.size ≤ w5.heap.size) := Lib.hid (by have := HX5.out.size; first | omega | (simp only []; omega) | (simp; omega))
  clear e6 bB1_6 bB2_6 bB4_6
  have c1_0 := HB1_6.out.cell 0 rfl
  have c1_1 := HB1_6.out.cell 1 rfl
  have c1_2 := HB1_6.out.cell 2 rfl
  have c2_0 := HB2_6.out.cell 0 rfl
  have c2_1 := HB2_6.out.cell 1 rfl
  have c2_2 := HB2_6.out.cell 2 rfl
  go_wp2_with fail
  refine wp_loop_rounds 3 ?_
  rw [rounds_succ]
  clear c1_0 c1_1 c1_2 c2_0 c2_1 c2_2
  go_upto_region 17 with fail
  refine wp_name (fun W => Ext w W ∧ Blk W (w.heap.size + 1) #[.string (qs a.x), .string (qs a.y), .string (qs p)] 55 ∧ Blk W (w.heap.size + 1 + 1) #[.string (qs b.x), .string (qs b.y), .string (qs q)] 55 ∧ Blk W (w5.heap.size) #[.string ⟨#[]⟩, .string ⟨#[]⟩, .string ⟨#[]⟩] 37 ∧ Blk W (w6.heap.size) #[.string (qs a.x), .string (qs a.y), .string (qs p), .string (qs b.x), .string (qs b.y), .string (qs q)] 55) ⟨(HX6.out.alloc _), (HB1_6.out.alloc _), (HB2_6.out.alloc _), (HB4_6.out.alloc _), (Blk.new' (w := _) (cs := #[.string (qs a.x), .string (qs a.y), .string (qs p), .string (qs b.x), .string (qs b.y), .string (qs q)]) (t := 55) (by first | rfl | (simp only [World.size_alloc]; done) | (simp only [World.size_alloc]; omega) | simp))⟩ ?_
  rintro w7 ⟨e7, bB1_7, bB2_7, bB4_7, bB5_7⟩
  have HX7 := Lib.hid e7; have HB1_7 := Lib.hid bB1_7; have HB2_7 := Lib.hid bB2_7; have HB4_7 := Lib.hid bB4_7; have HB5_7 := Lib.hid bB5_7
  have HGEB5 : Hid (w.heap.size ≤ w6.heap.size) := Lib.hid (by have := HX6.out.size; first | omega | (simp only []; omega) | (simp; omega))
  clear e7 bB1_7 bB2_7 bB4_7 bB5_7
  have c5_0 := HB5_7.out.cell 0 rfl
  have c5_1 := HB5_7.out.cell 1 rfl
  have c5_2 := HB5_7.out.cell 2 rfl
  go_upto_region 19 with fail
  refine wp_name (fun W => Ext w W ∧ Blk W (w.heap.size + 1) #[.string (qs a.x), .string (qs a.y), .string (qs p)] 55 ∧ Blk W (w.heap.size + 1 + 1) #[.string (qs b.x), .string (qs b.y), .string (qs q)] 55 ∧ Blk W (w5.heap.size) #[.string ⟨#[]⟩, .string ⟨#[]⟩, .string ⟨#[]⟩] 37 ∧ Blk W (w6.heap.size) #[.string (qs a.x), .string (qs a.y), .string (qs p), .string (qs b.x), .string (qs b.y), .string (qs q)] 55 ∧ Blk W (w7.heap.size) #[.string (qs a.x), .string (qs a.y), .string (qs p)] 55) ⟨(HX7.out.alloc _), (HB1_7.out.alloc _), (HB2_7.out.alloc _), (HB4_7.out.alloc _), (HB5_7.out.alloc _), (Blk.new' (w := _) (cs := #[.string (qs a.x), .string (qs a.y), .string (qs p)]) (t := 55) (by first | rfl | (simp only [World.size_alloc]; done) | (simp only [World.size_alloc]; omega) | simp))⟩ ?_
  rintro w8 ⟨e8, bB1_8, bB2_8, bB4_8, bB5_8, bB6_8⟩
  have HX8 := Lib.hid e8; have HB1_8 := Lib.hid bB1_8; have HB2_8 := Lib.hid bB2_8; have HB4_8 := Lib.hid bB4_8; have HB5_8 := Lib.hid bB5_8; have HB6_8 := Lib.hid bB6_8
  have HGEB6 : Hid (w.heap.size ≤ w7.heap.size) := Lib.hid (by have := HX7.out.size; first | omega | (simp only []; omega) | (simp; omega))
  clear e8 bB1_8 bB2_8 bB4_8 bB5_8 bB6_8 c5_0 c5_1 c5_2
  have c6_0 := HB6_8.out.cell 0 rfl
  have c6_1 := HB6_8.out.cell 1 rfl
  go_wp2_with fail
  refine (ldir_l (t := ⟨qs a.x, qs a.y⟩) _ (HG.out.ext HX8.out) HEA.out).mono ?_; rintro e w9 ⟨rfl, e9⟩
  have HX9 : Hid (Ext w w9) := Lib.hid (HX8.out.trans e9)
  have HB1_9 := Lib.hid (Blk.ext HB1_8.out e9)
  have HB2_9 := Lib.hid (Blk.ext HB2_8.out e9)
  have HB4_9 := Lib.hid (Blk.ext HB4_8.out e9)
  have HB5_9 := Lib.hid (Blk.ext HB5_8.out e9)
  have HB6_9 := Lib.hid (Blk.ext HB6_8.out e9)
  clear e9 c6_0 c6_1
  have c6_2 := HB6_9.out.cell 2 rfl
  go_wp2_with fail
  refine (right15_b [qs p] 1 (w9.heap.size) true _ (HG.out.ext (HX9.out.alloc _)) rfl (by decide) (sizes1' ((HP.out.mono (by decide) : QB 200 p).len (by decide))) (all1' (rq_qs (HP.out.mono (by decide)))) (Blk.new' (w := _) (cs := #[.string (qs p)]) (t := 22) (by first | rfl | (simp only [World.size_alloc]; done) | (simp only [World.size_alloc]; omega) | simp))).mono ?_; rintro e w10 ⟨rfl, e10⟩
  have HX10 : Hid (Ext w w10) := Lib.hid ((HX9.out.alloc _).trans e10)
  have HB1_10 : Hid (Blk w10 (w.heap.size + 1) #[.string (qs a.x), .string (qs a.y), .string (qs p)] 55) := Lib.hid (Blk.ext (HB1_9.out.alloc _) e10)
  have HB2_10 : Hid (Blk w10 (w.heap.size + 1 + 1) #[.string (qs b.x), .string (qs b.y), .string (qs q)] 55) := Lib.hid (Blk.ext (HB2_9.out.alloc _) e10)
  have HB4_10 : Hid (Blk w10 (w5.heap.size) #[.string ⟨#[]⟩, .string ⟨#[]⟩, .string ⟨#[]⟩] 37) := Lib.hid (Blk.ext (HB4_9.out.alloc _) e10)
  have HB5_10 : Hid (Blk w10 (w6.heap.size) #[.string (qs a.x), .string (qs a.y), .string (qs p), .string (qs b.x), .string (qs b.y), .string (qs q)] 55) := Lib.hid (Blk.ext (HB5_9.out.alloc _) e10)
  have HB7_10 : Hid (Blk w10 (w9.heap.size) #[.string (qs p)] 22) := Lib.hid (Blk.ext (Blk.new' (w := _) (cs := #[.string (qs p)]) (t := 22) (by first | rfl | (simp only [World.size_alloc]; done) | (simp only [World.size_alloc]; omega) | simp)) e10)
  have HGEB7 : Hid (w.heap.size ≤ w9.heap.size) := Lib.hid (by have := HX9.out.size; first | omega | (simp only []; omega) | (simp; omega))
  clear e10 c6_2
  go_wp2_with fail
  rw [rounds_succ]
  have c5_3 := HB5_10.out.cell 3 rfl
  have c5_4 := HB5_10.out.cell 4 rfl
  have c5_5 := HB5_10.out.cell 5 rfl
  go_upto_region 19 with fail
  refine wp_name (fun W => Ext w W ∧ Blk W (w.heap.size + 1) #[.string (qs a.x), .string (qs a.y), .string (qs p)] 55 ∧ Blk W (w.heap.size + 1 + 1) #[.string (qs b.x), .string (qs b.y), .string (qs q)] 55 ∧ Blk W (w5.heap.size) #[.string ⟨#[]⟩, .string ⟨#[]⟩, .string ⟨#[]⟩] 37 ∧ Blk W (w10.heap.size) #[.string (qs b.x), .string (qs b.y), .string (qs q)] 55) ⟨(HX10.out.alloc _), (HB1_10.out.alloc _), (HB2_10.out.alloc _), (HB4_10.out.alloc _), (Blk.new' (w := _) (cs := #[.string (qs b.x), .string (qs b.y), .string (qs q)]) (t := 55) (by first | rfl | (simp only [World.size_alloc]; done) | (simp only [World.size_alloc]; omega) | simp))⟩ ?_
  rintro w11 ⟨e11, bB1_11, bB2_11, bB4_11, bB8_11⟩
  have HX11 := Lib.hid e11; have HB1_11 := Lib.hid bB1_11; have HB2_11 := Lib.hid bB2_11; have HB4_11 := Lib.hid bB4_11; have HB8_11 := Lib.hid bB8_11
  have HGEB8 : Hid (w.heap.size ≤ w10.heap.size) := Lib.hid (by have := HX10.out.size; first | omega | (simp only []; omega) | (simp; omega))
  clear e11 bB1_11 bB2_11 bB4_11 bB8_11 c5_3 c5_4 c5_5
  have c8_0 := HB8_11.out.cell 0 rfl
  have c8_1 := HB8_11.out.cell 1 rfl
  go_wp2_with fail
  refine (ldir_l (t := ⟨qs b.x, qs b.y⟩) _ (HG.out.ext HX11.out) HEB.out).mono ?_; rintro e w12 ⟨rfl, e12⟩
  have HX12 : Hid (Ext w w12) := Lib.hid (HX11.out.trans e12)
  have HB1_12 := Lib.hid (Blk.ext HB1_11.out e12)
  have HB2_12 := Lib.hid (Blk.ext HB2_11.out e12)
  have HB4_12 := Lib.hid (Blk.ext HB4_11.out e12)
  have HB8_12 := Lib.hid (Blk.ext HB8_11.out e12)
  clear e12 c8_0 c8_1
  have c8_2 := HB8_12.out.cell 2 rfl
  go_wp2_with fail
  refine (right15_b [qs q] 1 (w12.heap.size) true _ (HG.out.ext (HX12.out.alloc _)) rfl (by decide) (sizes1' ((HQ.out.mono (by decide) : QB 200 q).len (by decide))) (all1' (rq_qs (HQ.out.mono (by decide)))) (Blk.new' (w := _) (cs := #[.string (qs q)]) (t := 22) (by first | rfl | (simp only [World.size_alloc]; done) | (simp only [World.size_alloc]; omega) | simp))).mono ?_; rintro e w13 ⟨rfl, e13⟩
  have HX13 : Hid (Ext w w13) := Lib.hid ((HX12.out.alloc _).trans e13)
  have HB1_13 : Hid (Blk w13 (w.heap.size + 1) #[.string (qs a.x), .string (qs a.y), .string (qs p)] 55) := Lib.hid (Blk.ext (HB1_12.out.alloc _) e13)
  have HB2_13 : Hid (Blk w13 (w.heap.size + 1 + 1) #[.string (qs b.x), .string (qs b.y), .string (qs q)] 55) := Lib.hid (Blk.ext (HB2_12.out.alloc _) e13)
  have HB4_13 : Hid (Blk w13 (w5.heap.size) #[.string ⟨#[]⟩, .string ⟨#[]⟩, .string ⟨#[]⟩] 37) := Lib.hid (Blk.ext (HB4_12.out.alloc _) e13)
  have HB9_13 : Hid (Blk w13 (w12.heap.size) #[.string (qs q)] 22) := Lib.hid (Blk.ext (Blk.new' (w := _) (cs := #[.string (qs q)]) (t := 22) (by first | rfl | (simp only [World.size_alloc]; done) | (simp only [World.size_alloc]; omega) | simp)) e13)
  have HGEB9 : Hid (w.heap.size ≤ w12.heap.size) := Lib.hid (by have := HX12.out.size; first | omega | (simp only []; omega) | (simp; omega))
  clear e13 c8_2
  go_wp2_with fail
  rw [rounds_succ]
  go_wp2_with fail
  refine wp_name (fun W => Ext w W ∧ Blk W (w.heap.size + 1) #[.string (qs a.x), .string (qs a.y), .string (qs p)] 55 ∧ Blk W (w.heap.size + 1 + 1) #[.string (qs b.x), .string (qs b.y), .string (qs q)] 55 ∧ Blk W (w5.heap.size) #[.string ⟨#[]⟩, .string ⟨#[]⟩, .string ⟨#[]⟩] 37) ⟨HX13.out, HB1_13.out, HB2_13.out, HB4_13.out⟩ ?_
  rintro w14 ⟨e14, bB1_14, bB2_14, bB4_14⟩
  have HX14 := Lib.hid e14; have HB1_14 := Lib.hid bB1_14; have HB2_14 := Lib.hid bB2_14; have HB4_14 := Lib.hid bB4_14
  clear e14 bB1_14 bB2_14 bB4_14
  refine region_lin [.val (.int .i64 0), .val (.bool true), .val (.bool true), .val (.pointer (some ⟨w.heap.size + 1, 0, none⟩)), .val (.pointer (some ⟨w.heap.size + 1, 0, none⟩)), .val (.string (qs a.x)), .val (.pointer (some ⟨w.heap.size + 1 + 1, 0, none⟩)), .val (.pointer (some ⟨w.heap.size + 1 + 1, 1, none⟩)), .val (.string (qs b.y)), .val (.string (qs (a.x * b.y))), .val (.pointer (some ⟨w.heap.size + 1, 0, none⟩)), .val (.pointer (some ⟨w.heap.size + 1, 1, none⟩)), .val (.string (qs a.y)), .val (.pointer (some ⟨w.heap.size + 1 + 1, 0, none⟩)), .val (.pointer (some ⟨w.heap.size + 1 + 1, 0, none⟩)), .val (.string (qs b.x)), .val (.string (qs (a.y * b.x))), .val (.int .i64 (qcmp (a.x * b.y) (a.y * b.x))), .val (.bool true), .val (.bool true)] (by kernel_rfl) (by kernel_rfl) (by kernel_rfl) ?_ (fun g14 w15 hx_ hm_ hne_ => ?_)
  · skip
    refine RnL.cons (fun g14 A_ W_ hs_ => ?_) ?_
    · have q9_ := (hs_.old 9 (by kernel_rfl) : A_.tmps[9]?.getD undef = .int .i64 0)
      refine Rn.val fun K_ hK_ => ?_
      go_simp
      exact hK_.out _ (Ext.refl _)
    refine RnL.cons (fun g14 A_ W_ hs_ => ?_) ?_
    · have q119_ := hs_.val 0 rfl rfl rfl
      refine Rn.val fun K_ hK_ => ?_
      go_simp
      exact hK_.out _ (Ext.refl _)
    refine RnL.cons (fun g14 A_ W_ hs_ => ?_) ?_
    · have q120_ := hs_.val 1 rfl rfl rfl
      refine Rn.val fun K_ hK_ => ?_
      go_simp
      exact hK_.out _ (Ext.refl _)
    refine RnL.cons (fun g14 A_ W_ hs_ => ?_) ?_
    · have q4_ := (hs_.old 4 (by kernel_rfl) : A_.tmps[4]?.getD undef = .pointer (some ⟨w.heap.size + 1, 0, none⟩))
      refine Rn.val fun K_ hK_ => ?_
      go_simp
      exact hK_.out _ (Ext.refl _)
    refine RnL.cons (fun g14 A_ W_ hs_ => ?_) ?_
    · have q122_ := hs_.val 3 rfl rfl rfl
      refine Rn.val fun K_ hK_ => ?_
      go_simp
      exact hK_.out _ (Ext.refl _)
    refine RnL.cons (fun g14 A_ W_ hs_ => ?_) ?_
    · have q123_ := hs_.val 4 rfl rfl rfl
      have cB1_0 := ((HB1_14.out.drew.ext hs_.1)).cell 0 rfl
      refine Rn.val fun K_ hK_ => ?_
      go_simp
      exact hK_.out _ (Ext.refl _)
    refine RnL.cons (fun g14 A_ W_ hs_ => ?_) ?_
    · have q5_ := (hs_.old 5 (by kernel_rfl) : A_.tmps[5]?.getD undef = .pointer (some ⟨w.heap.size + 1 + 1, 0, none⟩))
      refine Rn.val fun K_ hK_ => ?_
      go_simp
      exact hK_.out _ (Ext.refl _)
    refine RnL.cons (fun g14 A_ W_ hs_ => ?_) ?_
    · have q125_ := hs_.val 6 rfl rfl rfl
      refine Rn.val fun K_ hK_ => ?_
      go_simp
      exact hK_.out _ (Ext.refl _)
    refine RnL.cons (fun g14 A_ W_ hs_ => ?_) ?_
    · have q126_ := hs_.val 7 rfl rfl rfl
      have cB2_1 := ((HB2_14.out.drew.ext hs_.1)).cell 1 rfl
      refine Rn.val fun K_ hK_ => ?_
      go_simp
      exact hK_.out _ (Ext.refl _)
    refine RnL.cons (fun g14 A_ W_ hs_ => ?_) ?_
    · have q124_ := hs_.val 5 rfl rfl rfl
      have q127_ := hs_.val 8 rfl rfl rfl
      refine Rn.val fun K_ hK_ => ?_
      go_simp
      refine (rmul_c a.x b.y _ (HG.out.ext (HX14.out.drew.trans hs_.1)) HA4.out.x HB4.out.y (by omega) (by omega)).mono ?_; rintro e W9_ ⟨rfl, e9_⟩; exact hK_.out _ e9_
    refine RnL.cons (fun g14 A_ W_ hs_ => ?_) ?_
    · have q4_ := (hs_.old 4 (by kernel_rfl) : A_.tmps[4]?.getD undef = .pointer (some ⟨w.heap.size + 1, 0, none⟩))
      refine Rn.val fun K_ hK_ => ?_
      go_simp
      exact hK_.out _ (Ext.refl _)
    refine RnL.cons (fun g14 A_ W_ hs_ => ?_) ?_
    · have q129_ := hs_.val 10 rfl rfl rfl
      refine Rn.val fun K_ hK_ => ?_
      go_simp
      exact hK_.out _ (Ext.refl _)
    refine RnL.cons (fun g14 A_ W_ hs_ => ?_) ?_
    · have q130_ := hs_.val 11 rfl rfl rfl
      have cB1_1 := ((HB1_14.out.drew.ext hs_.1)).cell 1 rfl
      refine Rn.val fun K_ hK_ => ?_
      go_simp
      exact hK_.out _ (Ext.refl _)
    refine RnL.cons (fun g14 A_ W_ hs_ => ?_) ?_
    · have q5_ := (hs_.old 5 (by kernel_rfl) : A_.tmps[5]?.getD undef = .pointer (some ⟨w.heap.size + 1 + 1, 0, none⟩))
      refine Rn.val fun K_ hK_ => ?_
      go_simp
      exact hK_.out _ (Ext.refl _)
    refine RnL.cons (fun g14 A_ W_ hs_ => ?_) ?_
    · have q132_ := hs_.val 13 rfl rfl rfl
      refine Rn.val fun K_ hK_ => ?_
      go_simp
      exact hK_.out _ (Ext.refl _)
    refine RnL.cons (fun g14 A_ W_ hs_ => ?_) ?_
    · have q133_ := hs_.val 14 rfl rfl rfl
      have cB2_0 := ((HB2_14.out.drew.ext hs_.1)).cell 0 rfl
      refine Rn.val fun K_ hK_ => ?_
      go_simp
      exact hK_.out _ (Ext.refl _)
    refine RnL.cons (fun g14 A_ W_ hs_ => ?_) ?_
    · have q131_ := hs_.val 12 rfl rfl rfl
      have q134_ := hs_.val 15 rfl rfl rfl
      refine Rn.val fun K_ hK_ => ?_
      go_simp
      refine (rmul_c a.y b.x _ (HG.out.ext (HX14.out.drew.trans hs_.1)) HA4.out.y HB4.out.x (by omega) (by omega)).mono ?_; rintro e W9_ ⟨rfl, e9_⟩; exact hK_.out _ e9_
    refine RnL.cons (fun g14 A_ W_ hs_ => ?_) ?_
    · have q128_ := hs_.val 9 rfl rfl rfl
      have q135_ := hs_.val 16 rfl rfl rfl
      refine Rn.val fun K_ hK_ => ?_
      go_simp
      refine (rcompare_c (a.x * b.y) (a.y * b.x) _ (HG.out.ext (HX14.out.drew.trans hs_.1)) (HA4.out.x.mul HB4.out.y) (HA4.out.y.mul HB4.out.x) (by omega) (by omega)).mono ?_; rintro e W9_ ⟨rfl, e9_⟩; exact hK_.out _ e9_
    refine RnL.cons (fun g14 A_ W_ hs_ => ?_) ?_
    · have q136_ := hs_.val 17 rfl rfl rfl
      refine Rn.val fun K_ hK_ => ?_
      go_simp
      exact hK_.out _ (Ext.refl _)
    refine RnL.cons (fun g14 A_ W_ hs_ => ?_) ?_
    · have q121_ := hs_.val 2 rfl rfl rfl
      have q137_ := hs_.val 18 rfl rfl rfl
      refine Rn.val fun K_ hK_ => ?_
      go_simp
      exact hK_.out _ (Ext.refl _)
    exact RnL.nil
  simp only [fs, Kd.value, puts, Act.put, List.setIfInBounds_toArray, List.set_cons_zero, List.set_cons_succ]
  have HX15 : Hid (Ext w w15) := Lib.hid (HX14.out.drew.trans hx_)
  have HB4_15 := Lib.hid (HB4_14.out.drew.ext hx_)
  clear hx_ hm_ hne_
  have c4_0 := HB4_15.out.cell 0 rfl
  have c4_1 := HB4_15.out.cell 1 rfl
  have c4_2 := HB4_15.out.cell 2 rfl
  go_wp2
  go_ret
  exact ⟨rfl, HX15.out⟩

set_option maxRecDepth 100000 in
set_option maxHeartbeats 16000000 in
theorem falls15_NR (n : T3) (a : P2) (b : P2) (p q : Rat) (en ea eb : Int) (w : World) (g : Gd w) (hsz : [n.x, n.y, n.z, qs a.x, qs a.y, qs p, qs b.x, qs b.y, qs q].all sz24 = true) (hen : NErr n en) (hea : HErr ⟨qs a.x, qs a.y⟩ 0) (hen0 : en ≠ 0) (heb : HErr ⟨qs b.x, qs b.y⟩ 0) (hd : a.x * b.y - a.y * b.x ≠ 0) : Calls Tryz.prog 7 #[.agg #[.string n.x, .string n.y, .string n.z], .agg #[.string (qs a.x), .string (qs a.y), .string (qs p)], .agg #[.string (qs b.x), .string (qs b.y), .string (qs q)]] w (Ret w (.bool true)) := by
  have HEN := Lib.hid hen
  have HEA := Lib.hid hea
  have HEB := Lib.hid heb
  have HG := Lib.hid g
  clear hen hea heb g
  have HSZ := Lib.hid hsz
  simp only [List.all_cons, List.all_nil, Bool.and_true, Bool.and_eq_true, sz24_true] at hsz
  obtain ⟨s0, s1, s2, s3, s4, s5, s6, s7, s8⟩ := hsz
  have HEN0 := Lib.hid hen0
  have en_d : (en != 0) = true := bne_iff_ne.2 hen0
  have en_e : (en == 0) = false := beq_eq_false_iff_ne.2 hen0
  clear hen0
  have HA4 : Hid (PB 24 a) := Lib.hid ⟨qb_of_size s3, qb_of_size s4⟩
  have HP : Hid (QB 24 p) := Lib.hid (qb_of_size s5); have HB4 : Hid (PB 24 b) := Lib.hid ⟨qb_of_size s6, qb_of_size s7⟩; have HQ : Hid (QB 24 q) := Lib.hid (qb_of_size s8)
  clear s0 s1 s2 s3 s4 s5 s6 s7 s8
  have hc_d : (qcmp (a.x * b.y) (a.y * b.x) == 0) = false := beq_eq_false_iff_ne.2 (fun e => hd (by have := qcmp_eq0 e; grind))
  have HD := Lib.hid hd
  obtain ⟨X, eX⟩ : ∃ X, (p * b.y - a.y * q) / (a.x * b.y - a.y * b.x) = X := ⟨_, rfl⟩
  obtain ⟨Y, eY⟩ : ∃ Y, (a.x * q - p * b.x) / (a.x * b.y - a.y * b.x) = Y := ⟨_, rfl⟩
  have HFA := Lib.hid (show X * a.x + Y * a.y = p by rw [← eX, ← eY]; exact fall_a hd)
  have HFB := Lib.hid (show X * b.x + Y * b.y = q by rw [← eX, ← eY]; exact fall_b hd)
  have HXB : Hid (QB 200 X) := Lib.hid (eX ▸ ((((HP.out.mul HB4.out.y).sub (HA4.out.y.mul HQ.out)).div ((HA4.out.x.mul HB4.out.y).sub (HA4.out.y.mul HB4.out.x)) (by decide)).mono (by decide)))
  have HYB : Hid (QB 200 Y) := Lib.hid (eY ▸ ((((HA4.out.x.mul HQ.out).sub (HP.out.mul HB4.out.x)).div ((HA4.out.x.mul HB4.out.y).sub (HA4.out.y.mul HB4.out.x)) (by decide)).mono (by decide)))
  have HEX := Lib.hid eX; have HEY := Lib.hid eY; clear hd eX eY
  go_enter Tryz.func7, Tryz.ntmps7
  go_wp2_with fail
  refine (known15_c _ (HG.out.ext ((((Ext.refl w).alloc _).alloc _).alloc _))).mono ?_; rintro e w1 ⟨rfl, e1⟩
  have HX1 : Hid (Ext w w1) := Lib.hid (((((Ext.refl w).alloc _).alloc _).alloc _).trans e1)
  have HB0_1 : Hid (Blk w1 (w.heap.size) #[.string n.x, .string n.y, .string n.z] 37) := Lib.hid (Blk.ext (((Blk.new' (w := _) (cs := #[.string n.x, .string n.y, .string n.z]) (t := 37) (by first | rfl | (simp only [World.size_alloc]; done) | (simp only [World.size_alloc]; omega) | simp)).alloc _).alloc _) e1)
  have HB1_1 : Hid (Blk w1 (w.heap.size + 1) #[.string (qs a.x), .string (qs a.y), .string (qs p)] 55) := Lib.hid (Blk.ext ((Blk.new' (w := _) (cs := #[.string (qs a.x), .string (qs a.y), .string (qs p)]) (t := 55) (by first | rfl | (simp only [World.size_alloc]; done) | (simp only [World.size_alloc]; omega) | simp)).alloc _) e1)
  have HB2_1 : Hid (Blk w1 (w.heap.size + 1 + 1) #[.string (qs b.x), .string (qs b.y), .string (qs q)] 55) := Lib.hid (Blk.ext (Blk.new' (w := _) (cs := #[.string (qs b.x), .string (qs b.y), .string (qs q)]) (t := 55) (by first | rfl | (simp only [World.size_alloc]; done) | (simp only [World.size_alloc]; omega) | simp)) e1)
  have HGEB0 : Hid (w.heap.size ≤ w.heap.size) := Lib.hid (by first | omega | (simp only []; omega) | (simp; omega))
  have HGEB1 : Hid (w.heap.size ≤ w.heap.size + 1) := Lib.hid (by first | omega | (simp only []; omega) | (simp; omega))
  have HGEB2 : Hid (w.heap.size ≤ w.heap.size + 1 + 1) := Lib.hid (by first | omega | (simp only []; omega) | (simp; omega))
  clear e1
  have c0_0 := HB0_1.out.cell 0 rfl
  have c0_1 := HB0_1.out.cell 1 rfl
  have c0_2 := HB0_1.out.cell 2 rfl
  have c1_0 := HB1_1.out.cell 0 rfl
  have c1_1 := HB1_1.out.cell 1 rfl
  have c1_2 := HB1_1.out.cell 2 rfl
  have c2_0 := HB2_1.out.cell 0 rfl
  have c2_1 := HB2_1.out.cell 1 rfl
  have c2_2 := HB2_1.out.cell 2 rfl
  go_wp2_with fail
  refine (short15_b [n.x, n.y, n.z, qs a.x, qs a.y, qs p, qs b.x, qs b.y, qs q] 9 (w1.heap.size) true _ rfl (by decide) HSZ.out (Blk.new' (w := _) (cs := #[.string n.x, .string n.y, .string n.z, .string (qs a.x), .string (qs a.y), .string (qs p), .string (qs b.x), .string (qs b.y), .string (qs q)]) (t := 22) (by first | rfl | (simp only [World.size_alloc]; done) | (simp only [World.size_alloc]; omega) | simp))).mono ?_; rintro e w2 ⟨rfl, e2⟩
  have HX2 : Hid (Ext w w2) := Lib.hid ((HX1.out.alloc _).trans e2)
  have HB0_2 : Hid (Blk w2 (w.heap.size) #[.string n.x, .string n.y, .string n.z] 37) := Lib.hid (Blk.ext (HB0_1.out.alloc _) e2)
  have HB1_2 : Hid (Blk w2 (w.heap.size + 1) #[.string (qs a.x), .string (qs a.y), .string (qs p)] 55) := Lib.hid (Blk.ext (HB1_1.out.alloc _) e2)
  have HB2_2 : Hid (Blk w2 (w.heap.size + 1 + 1) #[.string (qs b.x), .string (qs b.y), .string (qs q)] 55) := Lib.hid (Blk.ext (HB2_1.out.alloc _) e2)
  have HB3_2 : Hid (Blk w2 (w1.heap.size) #[.string n.x, .string n.y, .string n.z, .string (qs a.x), .string (qs a.y), .string (qs p), .string (qs b.x), .string (qs b.y), .string (qs q)] 22) := Lib.hid (Blk.ext (Blk.new' (w := _) (cs := #[.string n.x, .string n.y, .string n.z, .string (qs a.x), .string (qs a.y), .string (qs p), .string (qs b.x), .string (qs b.y), .string (qs q)]) (t := 22) (by first | rfl | (simp only [World.size_alloc]; done) | (simp only [World.size_alloc]; omega) | simp)) e2)
  have HGEB3 : Hid (w.heap.size ≤ w1.heap.size) := Lib.hid (by have := HX1.out.size; first | omega | (simp only []; omega) | (simp; omega))
  clear e2 c0_0 c0_1 c0_2 c1_0 c1_1 c1_2 c2_0 c2_1 c2_2
  have c0_0 := HB0_2.out.cell 0 rfl
  have c0_1 := HB0_2.out.cell 1 rfl
  have c0_2 := HB0_2.out.cell 2 rfl
  have c1_0 := HB1_2.out.cell 0 rfl
  have c1_1 := HB1_2.out.cell 1 rfl
  go_wp2_with fail
  refine (aapp_n n ⟨qs a.x, qs a.y⟩ en _ (HG.out.ext HX2.out) HEN.out HEN0.out).mono ?_; rintro e w3 ⟨rfl, e3⟩
  have HX3 : Hid (Ext w w3) := Lib.hid (HX2.out.trans e3)
  have HB0_3 := Lib.hid (Blk.ext HB0_2.out e3)
  have HB1_3 := Lib.hid (Blk.ext HB1_2.out e3)
  have HB2_3 := Lib.hid (Blk.ext HB2_2.out e3)
  clear e3 c0_0 c0_1 c0_2 c1_0 c1_1
  have c0_0 := HB0_3.out.cell 0 rfl
  have c0_1 := HB0_3.out.cell 1 rfl
  have c0_2 := HB0_3.out.cell 2 rfl
  go_wp2_with fail
  refine (lnorm_l (t := n) _ (HG.out.ext HX3.out) HEN.out).mono ?_; rintro e w4 ⟨rfl, e4⟩
  have HX4 : Hid (Ext w w4) := Lib.hid (HX3.out.trans e4)
  have HB1_4 := Lib.hid (Blk.ext HB1_3.out e4)
  have HB2_4 := Lib.hid (Blk.ext HB2_3.out e4)
  clear e4 c0_0 c0_1 c0_2
  have c1_0 := HB1_4.out.cell 0 rfl
  have c1_1 := HB1_4.out.cell 1 rfl
  have c1_2 := HB1_4.out.cell 2 rfl
  have c2_0 := HB2_4.out.cell 0 rfl
  have c2_1 := HB2_4.out.cell 1 rfl
  have c2_2 := HB2_4.out.cell 2 rfl
  go_wp2_with fail
  refine ((HEX.out ▸ HEY.out ▸ atrue_ok a b p q _ (HG.out.ext HX4.out) HA4.out HB4.out HP.out HQ.out HEA.out HEB.out HD.out)).mono ?_; rintro e w5 ⟨rfl, e5⟩
  have HX5 : Hid (Ext w w5) := Lib.hid (HX4.out.trans e5)
  have HB1_5 := Lib.hid (Blk.ext HB1_4.out e5)
  have HB2_5 := Lib.hid (Blk.ext HB2_4.out e5)
  clear e5 c1_0 c1_1 c1_2 c2_0 c2_1 c2_2
  go_upto_region 15 with fail
  refine wp_name (fun W => Ext w W ∧ Blk W (w.heap.size + 1) #[.string (qs a.x), .string (qs a.y), .string (qs p)] 55 ∧ Blk W (w.heap.size + 1 + 1) #[.string (qs b.x), .string (qs b.y), .string (qs q)] 55 ∧ Blk W (w5.heap.size) #[.string (qs X), .string (qs Y), .string ⟨#[49]⟩] 37) ⟨(HX5.out.alloc _), (HB1_5.out.alloc _), (HB2_5.out.alloc _), (Blk.new' (w := _) (cs := #[.string (qs X), .string (qs Y), .string ⟨#[49]⟩]) (t := 37) (by first | rfl | (simp only [World.size_alloc]; done) | (simp only [World.size_alloc]; omega) | simp))⟩ ?_
  rintro w6 ⟨e6, bB1_6, bB2_6, bB4_6⟩
  have HX6 := Lib.hid e6; have HB1_6 := Lib.hid bB1_6; have HB2_6 := Lib.hid bB2_6; have HB4_6 := Lib.hid bB4_6
  have HGEB4 : Hid (w.heap.size ≤ w5.heap.size) := Lib.hid (by have := HX5.out.size; first | omega | (simp only []; omega) | (simp; omega))
  clear e6 bB1_6 bB2_6 bB4_6
  have c1_0 := HB1_6.out.cell 0 rfl
  have c1_1 := HB1_6.out.cell 1 rfl
  have c1_2 := HB1_6.out.cell 2 rfl
  have c2_0 := HB2_6.out.cell 0 rfl
  have c2_1 := HB2_6.out.cell 1 rfl
  have c2_2 := HB2_6.out.cell 2 rfl
  go_wp2_with fail
  refine wp_loop_rounds 3 ?_
  rw [rounds_succ]
  clear c1_0 c1_1 c1_2 c2_0 c2_1 c2_2
  go_upto_region 17 with fail
  refine wp_name (fun W => Ext w W ∧ Blk W (w.heap.size + 1) #[.string (qs a.x), .string (qs a.y), .string (qs p)] 55 ∧ Blk W (w.heap.size + 1 + 1) #[.string (qs b.x), .string (qs b.y), .string (qs q)] 55 ∧ Blk W (w5.heap.size) #[.string (qs X), .string (qs Y), .string ⟨#[49]⟩] 37 ∧ Blk W (w6.heap.size) #[.string (qs a.x), .string (qs a.y), .string (qs p), .string (qs b.x), .string (qs b.y), .string (qs q)] 55) ⟨(HX6.out.alloc _), (HB1_6.out.alloc _), (HB2_6.out.alloc _), (HB4_6.out.alloc _), (Blk.new' (w := _) (cs := #[.string (qs a.x), .string (qs a.y), .string (qs p), .string (qs b.x), .string (qs b.y), .string (qs q)]) (t := 55) (by first | rfl | (simp only [World.size_alloc]; done) | (simp only [World.size_alloc]; omega) | simp))⟩ ?_
  rintro w7 ⟨e7, bB1_7, bB2_7, bB4_7, bB5_7⟩
  have HX7 := Lib.hid e7; have HB1_7 := Lib.hid bB1_7; have HB2_7 := Lib.hid bB2_7; have HB4_7 := Lib.hid bB4_7; have HB5_7 := Lib.hid bB5_7
  have HGEB5 : Hid (w.heap.size ≤ w6.heap.size) := Lib.hid (by have := HX6.out.size; first | omega | (simp only []; omega) | (simp; omega))
  clear e7 bB1_7 bB2_7 bB4_7 bB5_7
  have c5_0 := HB5_7.out.cell 0 rfl
  have c5_1 := HB5_7.out.cell 1 rfl
  have c5_2 := HB5_7.out.cell 2 rfl
  go_upto_region 19 with fail
  refine wp_name (fun W => Ext w W ∧ Blk W (w.heap.size + 1) #[.string (qs a.x), .string (qs a.y), .string (qs p)] 55 ∧ Blk W (w.heap.size + 1 + 1) #[.string (qs b.x), .string (qs b.y), .string (qs q)] 55 ∧ Blk W (w5.heap.size) #[.string (qs X), .string (qs Y), .string ⟨#[49]⟩] 37 ∧ Blk W (w6.heap.size) #[.string (qs a.x), .string (qs a.y), .string (qs p), .string (qs b.x), .string (qs b.y), .string (qs q)] 55 ∧ Blk W (w7.heap.size) #[.string (qs a.x), .string (qs a.y), .string (qs p)] 55) ⟨(HX7.out.alloc _), (HB1_7.out.alloc _), (HB2_7.out.alloc _), (HB4_7.out.alloc _), (HB5_7.out.alloc _), (Blk.new' (w := _) (cs := #[.string (qs a.x), .string (qs a.y), .string (qs p)]) (t := 55) (by first | rfl | (simp only [World.size_alloc]; done) | (simp only [World.size_alloc]; omega) | simp))⟩ ?_
  rintro w8 ⟨e8, bB1_8, bB2_8, bB4_8, bB5_8, bB6_8⟩
  have HX8 := Lib.hid e8; have HB1_8 := Lib.hid bB1_8; have HB2_8 := Lib.hid bB2_8; have HB4_8 := Lib.hid bB4_8; have HB5_8 := Lib.hid bB5_8; have HB6_8 := Lib.hid bB6_8
  have HGEB6 : Hid (w.heap.size ≤ w7.heap.size) := Lib.hid (by have := HX7.out.size; first | omega | (simp only []; omega) | (simp; omega))
  clear e8 bB1_8 bB2_8 bB4_8 bB5_8 bB6_8 c5_0 c5_1 c5_2
  have c6_0 := HB6_8.out.cell 0 rfl
  have c6_1 := HB6_8.out.cell 1 rfl
  go_wp2_with fail
  refine (ldir_l (t := ⟨qs a.x, qs a.y⟩) _ (HG.out.ext HX8.out) HEA.out).mono ?_; rintro e w9 ⟨rfl, e9⟩
  have HX9 : Hid (Ext w w9) := Lib.hid (HX8.out.trans e9)
  have HB1_9 := Lib.hid (Blk.ext HB1_8.out e9)
  have HB2_9 := Lib.hid (Blk.ext HB2_8.out e9)
  have HB4_9 := Lib.hid (Blk.ext HB4_8.out e9)
  have HB5_9 := Lib.hid (Blk.ext HB5_8.out e9)
  have HB6_9 := Lib.hid (Blk.ext HB6_8.out e9)
  clear e9 c6_0 c6_1
  have c6_2 := HB6_9.out.cell 2 rfl
  go_wp2_with fail
  refine (right15_b [qs p] 1 (w9.heap.size) true _ (HG.out.ext (HX9.out.alloc _)) rfl (by decide) (sizes1' ((HP.out.mono (by decide) : QB 200 p).len (by decide))) (all1' (rq_qs (HP.out.mono (by decide)))) (Blk.new' (w := _) (cs := #[.string (qs p)]) (t := 22) (by first | rfl | (simp only [World.size_alloc]; done) | (simp only [World.size_alloc]; omega) | simp))).mono ?_; rintro e w10 ⟨rfl, e10⟩
  have HX10 : Hid (Ext w w10) := Lib.hid ((HX9.out.alloc _).trans e10)
  have HB1_10 : Hid (Blk w10 (w.heap.size + 1) #[.string (qs a.x), .string (qs a.y), .string (qs p)] 55) := Lib.hid (Blk.ext (HB1_9.out.alloc _) e10)
  have HB2_10 : Hid (Blk w10 (w.heap.size + 1 + 1) #[.string (qs b.x), .string (qs b.y), .string (qs q)] 55) := Lib.hid (Blk.ext (HB2_9.out.alloc _) e10)
  have HB4_10 : Hid (Blk w10 (w5.heap.size) #[.string (qs X), .string (qs Y), .string ⟨#[49]⟩] 37) := Lib.hid (Blk.ext (HB4_9.out.alloc _) e10)
  have HB5_10 : Hid (Blk w10 (w6.heap.size) #[.string (qs a.x), .string (qs a.y), .string (qs p), .string (qs b.x), .string (qs b.y), .string (qs q)] 55) := Lib.hid (Blk.ext (HB5_9.out.alloc _) e10)
  have HB7_10 : Hid (Blk w10 (w9.heap.size) #[.string (qs p)] 22) := Lib.hid (Blk.ext (Blk.new' (w := _) (cs := #[.string (qs p)]) (t := 22) (by first | rfl | (simp only [World.size_alloc]; done) | (simp only [World.size_alloc]; omega) | simp)) e10)
  have HGEB7 : Hid (w.heap.size ≤ w9.heap.size) := Lib.hid (by have := HX9.out.size; first | omega | (simp only []; omega) | (simp; omega))
  clear e10 c6_2
  go_wp2_with fail
  rw [rounds_succ]
  have c5_3 := HB5_10.out.cell 3 rfl
  have c5_4 := HB5_10.out.cell 4 rfl
  have c5_5 := HB5_10.out.cell 5 rfl
  go_upto_region 19 with fail
  refine wp_name (fun W => Ext w W ∧ Blk W (w.heap.size + 1) #[.string (qs a.x), .string (qs a.y), .string (qs p)] 55 ∧ Blk W (w.heap.size + 1 + 1) #[.string (qs b.x), .string (qs b.y), .string (qs q)] 55 ∧ Blk W (w5.heap.size) #[.string (qs X), .string (qs Y), .string ⟨#[49]⟩] 37 ∧ Blk W (w10.heap.size) #[.string (qs b.x), .string (qs b.y), .string (qs q)] 55) ⟨(HX10.out.alloc _), (HB1_10.out.alloc _), (HB2_10.out.alloc _), (HB4_10.out.alloc _), (Blk.new' (w := _) (cs := #[.string (qs b.x), .string (qs b.y), .string (qs q)]) (t := 55) (by first | rfl | (simp only [World.size_alloc]; done) | (simp only [World.size_alloc]; omega) | simp))⟩ ?_
  rintro w11 ⟨e11, bB1_11, bB2_11, bB4_11, bB8_11⟩
  have HX11 := Lib.hid e11; have HB1_11 := Lib.hid bB1_11; have HB2_11 := Lib.hid bB2_11; have HB4_11 := Lib.hid bB4_11; have HB8_11 := Lib.hid bB8_11
  have HGEB8 : Hid (w.heap.size ≤ w10.heap.size) := Lib.hid (by have := HX10.out.size; first | omega | (simp only []; omega) | (simp; omega))
  clear e11 bB1_11 bB2_11 bB4_11 bB8_11 c5_3 c5_4 c5_5
  have c8_0 := HB8_11.out.cell 0 rfl
  have c8_1 := HB8_11.out.cell 1 rfl
  go_wp2_with fail
  refine (ldir_l (t := ⟨qs b.x, qs b.y⟩) _ (HG.out.ext HX11.out) HEB.out).mono ?_; rintro e w12 ⟨rfl, e12⟩
  have HX12 : Hid (Ext w w12) := Lib.hid (HX11.out.trans e12)
  have HB1_12 := Lib.hid (Blk.ext HB1_11.out e12)
  have HB2_12 := Lib.hid (Blk.ext HB2_11.out e12)
  have HB4_12 := Lib.hid (Blk.ext HB4_11.out e12)
  have HB8_12 := Lib.hid (Blk.ext HB8_11.out e12)
  clear e12 c8_0 c8_1
  have c8_2 := HB8_12.out.cell 2 rfl
  go_wp2_with fail
  refine (right15_b [qs q] 1 (w12.heap.size) true _ (HG.out.ext (HX12.out.alloc _)) rfl (by decide) (sizes1' ((HQ.out.mono (by decide) : QB 200 q).len (by decide))) (all1' (rq_qs (HQ.out.mono (by decide)))) (Blk.new' (w := _) (cs := #[.string (qs q)]) (t := 22) (by first | rfl | (simp only [World.size_alloc]; done) | (simp only [World.size_alloc]; omega) | simp))).mono ?_; rintro e w13 ⟨rfl, e13⟩
  have HX13 : Hid (Ext w w13) := Lib.hid ((HX12.out.alloc _).trans e13)
  have HB1_13 : Hid (Blk w13 (w.heap.size + 1) #[.string (qs a.x), .string (qs a.y), .string (qs p)] 55) := Lib.hid (Blk.ext (HB1_12.out.alloc _) e13)
  have HB2_13 : Hid (Blk w13 (w.heap.size + 1 + 1) #[.string (qs b.x), .string (qs b.y), .string (qs q)] 55) := Lib.hid (Blk.ext (HB2_12.out.alloc _) e13)
  have HB4_13 : Hid (Blk w13 (w5.heap.size) #[.string (qs X), .string (qs Y), .string ⟨#[49]⟩] 37) := Lib.hid (Blk.ext (HB4_12.out.alloc _) e13)
  have HB9_13 : Hid (Blk w13 (w12.heap.size) #[.string (qs q)] 22) := Lib.hid (Blk.ext (Blk.new' (w := _) (cs := #[.string (qs q)]) (t := 22) (by first | rfl | (simp only [World.size_alloc]; done) | (simp only [World.size_alloc]; omega) | simp)) e13)
  have HGEB9 : Hid (w.heap.size ≤ w12.heap.size) := Lib.hid (by have := HX12.out.size; first | omega | (simp only []; omega) | (simp; omega))
  clear e13 c8_2
  go_wp2_with fail
  rw [rounds_succ]
  go_wp2_with fail
  refine wp_name (fun W => Ext w W ∧ Blk W (w.heap.size + 1) #[.string (qs a.x), .string (qs a.y), .string (qs p)] 55 ∧ Blk W (w.heap.size + 1 + 1) #[.string (qs b.x), .string (qs b.y), .string (qs q)] 55 ∧ Blk W (w5.heap.size) #[.string (qs X), .string (qs Y), .string ⟨#[49]⟩] 37) ⟨HX13.out, HB1_13.out, HB2_13.out, HB4_13.out⟩ ?_
  rintro w14 ⟨e14, bB1_14, bB2_14, bB4_14⟩
  have HX14 := Lib.hid e14; have HB1_14 := Lib.hid bB1_14; have HB2_14 := Lib.hid bB2_14; have HB4_14 := Lib.hid bB4_14
  clear e14 bB1_14 bB2_14 bB4_14
  refine region_lin [.val (.int .i64 0), .val (.bool true), .val (.bool true), .val (.pointer (some ⟨w.heap.size + 1, 0, none⟩)), .val (.pointer (some ⟨w.heap.size + 1, 0, none⟩)), .val (.string (qs a.x)), .val (.pointer (some ⟨w.heap.size + 1 + 1, 0, none⟩)), .val (.pointer (some ⟨w.heap.size + 1 + 1, 1, none⟩)), .val (.string (qs b.y)), .val (.string (qs (a.x * b.y))), .val (.pointer (some ⟨w.heap.size + 1, 0, none⟩)), .val (.pointer (some ⟨w.heap.size + 1, 1, none⟩)), .val (.string (qs a.y)), .val (.pointer (some ⟨w.heap.size + 1 + 1, 0, none⟩)), .val (.pointer (some ⟨w.heap.size + 1 + 1, 0, none⟩)), .val (.string (qs b.x)), .val (.string (qs (a.y * b.x))), .val (.int .i64 (qcmp (a.x * b.y) (a.y * b.x))), .val (.bool false), .val (.bool false)] (by kernel_rfl) (by kernel_rfl) (by kernel_rfl) ?_ (fun g14 w15 hx_ hm_ hne_ => ?_)
  · skip
    refine RnL.cons (fun g14 A_ W_ hs_ => ?_) ?_
    · have q9_ := (hs_.old 9 (by kernel_rfl) : A_.tmps[9]?.getD undef = .int .i64 0)
      refine Rn.val fun K_ hK_ => ?_
      go_simp
      exact hK_.out _ (Ext.refl _)
    refine RnL.cons (fun g14 A_ W_ hs_ => ?_) ?_
    · have q119_ := hs_.val 0 rfl rfl rfl
      refine Rn.val fun K_ hK_ => ?_
      go_simp
      exact hK_.out _ (Ext.refl _)
    refine RnL.cons (fun g14 A_ W_ hs_ => ?_) ?_
    · have q120_ := hs_.val 1 rfl rfl rfl
      refine Rn.val fun K_ hK_ => ?_
      go_simp
      exact hK_.out _ (Ext.refl _)
    refine RnL.cons (fun g14 A_ W_ hs_ => ?_) ?_
    · have q4_ := (hs_.old 4 (by kernel_rfl) : A_.tmps[4]?.getD undef = .pointer (some ⟨w.heap.size + 1, 0, none⟩))
      refine Rn.val fun K_ hK_ => ?_
      go_simp
      exact hK_.out _ (Ext.refl _)
    refine RnL.cons (fun g14 A_ W_ hs_ => ?_) ?_
    · have q122_ := hs_.val 3 rfl rfl rfl
      refine Rn.val fun K_ hK_ => ?_
      go_simp
      exact hK_.out _ (Ext.refl _)
    refine RnL.cons (fun g14 A_ W_ hs_ => ?_) ?_
    · have q123_ := hs_.val 4 rfl rfl rfl
      have cB1_0 := ((HB1_14.out.drew.ext hs_.1)).cell 0 rfl
      refine Rn.val fun K_ hK_ => ?_
      go_simp
      exact hK_.out _ (Ext.refl _)
    refine RnL.cons (fun g14 A_ W_ hs_ => ?_) ?_
    · have q5_ := (hs_.old 5 (by kernel_rfl) : A_.tmps[5]?.getD undef = .pointer (some ⟨w.heap.size + 1 + 1, 0, none⟩))
      refine Rn.val fun K_ hK_ => ?_
      go_simp
      exact hK_.out _ (Ext.refl _)
    refine RnL.cons (fun g14 A_ W_ hs_ => ?_) ?_
    · have q125_ := hs_.val 6 rfl rfl rfl
      refine Rn.val fun K_ hK_ => ?_
      go_simp
      exact hK_.out _ (Ext.refl _)
    refine RnL.cons (fun g14 A_ W_ hs_ => ?_) ?_
    · have q126_ := hs_.val 7 rfl rfl rfl
      have cB2_1 := ((HB2_14.out.drew.ext hs_.1)).cell 1 rfl
      refine Rn.val fun K_ hK_ => ?_
      go_simp
      exact hK_.out _ (Ext.refl _)
    refine RnL.cons (fun g14 A_ W_ hs_ => ?_) ?_
    · have q124_ := hs_.val 5 rfl rfl rfl
      have q127_ := hs_.val 8 rfl rfl rfl
      refine Rn.val fun K_ hK_ => ?_
      go_simp
      refine (rmul_c a.x b.y _ (HG.out.ext (HX14.out.drew.trans hs_.1)) HA4.out.x HB4.out.y (by omega) (by omega)).mono ?_; rintro e W9_ ⟨rfl, e9_⟩; exact hK_.out _ e9_
    refine RnL.cons (fun g14 A_ W_ hs_ => ?_) ?_
    · have q4_ := (hs_.old 4 (by kernel_rfl) : A_.tmps[4]?.getD undef = .pointer (some ⟨w.heap.size + 1, 0, none⟩))
      refine Rn.val fun K_ hK_ => ?_
      go_simp
      exact hK_.out _ (Ext.refl _)
    refine RnL.cons (fun g14 A_ W_ hs_ => ?_) ?_
    · have q129_ := hs_.val 10 rfl rfl rfl
      refine Rn.val fun K_ hK_ => ?_
      go_simp
      exact hK_.out _ (Ext.refl _)
    refine RnL.cons (fun g14 A_ W_ hs_ => ?_) ?_
    · have q130_ := hs_.val 11 rfl rfl rfl
      have cB1_1 := ((HB1_14.out.drew.ext hs_.1)).cell 1 rfl
      refine Rn.val fun K_ hK_ => ?_
      go_simp
      exact hK_.out _ (Ext.refl _)
    refine RnL.cons (fun g14 A_ W_ hs_ => ?_) ?_
    · have q5_ := (hs_.old 5 (by kernel_rfl) : A_.tmps[5]?.getD undef = .pointer (some ⟨w.heap.size + 1 + 1, 0, none⟩))
      refine Rn.val fun K_ hK_ => ?_
      go_simp
      exact hK_.out _ (Ext.refl _)
    refine RnL.cons (fun g14 A_ W_ hs_ => ?_) ?_
    · have q132_ := hs_.val 13 rfl rfl rfl
      refine Rn.val fun K_ hK_ => ?_
      go_simp
      exact hK_.out _ (Ext.refl _)
    refine RnL.cons (fun g14 A_ W_ hs_ => ?_) ?_
    · have q133_ := hs_.val 14 rfl rfl rfl
      have cB2_0 := ((HB2_14.out.drew.ext hs_.1)).cell 0 rfl
      refine Rn.val fun K_ hK_ => ?_
      go_simp
      exact hK_.out _ (Ext.refl _)
    refine RnL.cons (fun g14 A_ W_ hs_ => ?_) ?_
    · have q131_ := hs_.val 12 rfl rfl rfl
      have q134_ := hs_.val 15 rfl rfl rfl
      refine Rn.val fun K_ hK_ => ?_
      go_simp
      refine (rmul_c a.y b.x _ (HG.out.ext (HX14.out.drew.trans hs_.1)) HA4.out.y HB4.out.x (by omega) (by omega)).mono ?_; rintro e W9_ ⟨rfl, e9_⟩; exact hK_.out _ e9_
    refine RnL.cons (fun g14 A_ W_ hs_ => ?_) ?_
    · have q128_ := hs_.val 9 rfl rfl rfl
      have q135_ := hs_.val 16 rfl rfl rfl
      refine Rn.val fun K_ hK_ => ?_
      go_simp
      refine (rcompare_c (a.x * b.y) (a.y * b.x) _ (HG.out.ext (HX14.out.drew.trans hs_.1)) (HA4.out.x.mul HB4.out.y) (HA4.out.y.mul HB4.out.x) (by omega) (by omega)).mono ?_; rintro e W9_ ⟨rfl, e9_⟩; exact hK_.out _ e9_
    refine RnL.cons (fun g14 A_ W_ hs_ => ?_) ?_
    · have q136_ := hs_.val 17 rfl rfl rfl
      refine Rn.val fun K_ hK_ => ?_
      go_simp
      exact hK_.out _ (Ext.refl _)
    refine RnL.cons (fun g14 A_ W_ hs_ => ?_) ?_
    · have q121_ := hs_.val 2 rfl rfl rfl
      have q137_ := hs_.val 18 rfl rfl rfl
      refine Rn.val fun K_ hK_ => ?_
      go_simp
      exact hK_.out _ (Ext.refl _)
    exact RnL.nil
  simp only [fs, Kd.value, puts, Act.put, List.setIfInBounds_toArray, List.set_cons_zero, List.set_cons_succ]
  have HX15 : Hid (Ext w w15) := Lib.hid (HX14.out.drew.trans hx_)
  have HB1_15 := Lib.hid (HB1_14.out.drew.ext hx_)
  have HB2_15 := Lib.hid (HB2_14.out.drew.ext hx_)
  have HB4_15 := Lib.hid (HB4_14.out.drew.ext hx_)
  clear hx_ hm_ hne_
  go_wp2_with fail
  refine wp_name (fun W => Ext w W ∧ Blk W (w.heap.size + 1) #[.string (qs a.x), .string (qs a.y), .string (qs p)] 55 ∧ Blk W (w.heap.size + 1 + 1) #[.string (qs b.x), .string (qs b.y), .string (qs q)] 55 ∧ Blk W (w5.heap.size) #[.string (qs X), .string (qs Y), .string ⟨#[49]⟩] 37) ⟨HX15.out, HB1_15.out, HB2_15.out, HB4_15.out⟩ ?_
  rintro w16 ⟨e16, bB1_16, bB2_16, bB4_16⟩
  have HX16 := Lib.hid e16; have HB1_16 := Lib.hid bB1_16; have HB2_16 := Lib.hid bB2_16; have HB4_16 := Lib.hid bB4_16
  clear e16 bB1_16 bB2_16 bB4_16
  refine region_lin [.val (.int .i64 0), .val (.bool true), .val (.bool true), .val (.pointer (some ⟨w5.heap.size, 0, none⟩)), .val (.string (qs X)), .val (.pointer (some ⟨w5.heap.size, 1, none⟩)), .val (.string (qs Y)), .mem (fun b_ => .slice (some ⟨b_, 0, none⟩) 2 2) #[.string (qs X), .string (qs Y)] 22 Option.none, .val (.bool true), .val (.bool true), .val (.bool true), .val (.pointer (some ⟨w5.heap.size, 2, none⟩)), .val (.string ⟨#[49]⟩), .val (.bool true), .val (.bool true), .val (.bool true), .val (.agg #[.string (qs X), .string (qs Y), .string ⟨#[49]⟩]), .val (.pointer (some ⟨w.heap.size + 1, 0, none⟩)), .val (.agg #[.string (qs a.x), .string (qs a.y)]), .val (.string (qs p)), .val (.pointer (some ⟨w.heap.size + 1, 2, none⟩)), .val (.string (qs p)), .val (.bool true), .val (.bool true), .val (.bool true), .val (.agg #[.string (qs X), .string (qs Y), .string ⟨#[49]⟩]), .val (.pointer (some ⟨w.heap.size + 1 + 1, 0, none⟩)), .val (.agg #[.string (qs b.x), .string (qs b.y)]), .val (.string (qs q)), .val (.pointer (some ⟨w.heap.size + 1 + 1, 2, none⟩)), .val (.string (qs q)), .val (.bool true), .val (.bool true), .val (.bool true)] (by kernel_rfl) (by kernel_rfl) (by kernel_rfl) ?_ (fun g16 w17 hx_ hm_ hne_ => ?_)
  · skip
    refine RnL.cons (fun g16 A_ W_ hs_ => ?_) ?_
    · have q11_ := (hs_.old 11 (by kernel_rfl) : A_.tmps[11]?.getD undef = .int .i64 0)
      refine Rn.val fun K_ hK_ => ?_
      go_simp
      exact hK_.out _ (Ext.refl _)
    refine RnL.cons (fun g16 A_ W_ hs_ => ?_) ?_
    · have q149_ := hs_.val 0 rfl rfl rfl
      refine Rn.val fun K_ hK_ => ?_
      go_simp
      exact hK_.out _ (Ext.refl _)
    refine RnL.cons (fun g16 A_ W_ hs_ => ?_) ?_
    · have q150_ := hs_.val 1 rfl rfl rfl
      refine Rn.val fun K_ hK_ => ?_
      go_simp
      exact hK_.out _ (Ext.refl _)
    refine RnL.cons (fun g16 A_ W_ hs_ => ?_) ?_
    · have q10_ := (hs_.old 10 (by kernel_rfl) : A_.tmps[10]?.getD undef = .pointer (some ⟨w5.heap.size, 0, none⟩))
      refine Rn.val fun K_ hK_ => ?_
      go_simp
      exact hK_.out _ (Ext.refl _)
    refine RnL.cons (fun g16 A_ W_ hs_ => ?_) ?_
    · have q152_ := hs_.val 3 rfl rfl rfl
      have cB4_0 := ((HB4_16.out.drew.ext hs_.1)).cell 0 rfl
      refine Rn.val fun K_ hK_ => ?_
      go_simp
      exact hK_.out _ (Ext.refl _)
    refine RnL.cons (fun g16 A_ W_ hs_ => ?_) ?_
    · have q10_ := (hs_.old 10 (by kernel_rfl) : A_.tmps[10]?.getD undef = .pointer (some ⟨w5.heap.size, 0, none⟩))
      refine Rn.val fun K_ hK_ => ?_
      go_simp
      exact hK_.out _ (Ext.refl _)
    refine RnL.cons (fun g16 A_ W_ hs_ => ?_) ?_
    · have q154_ := hs_.val 5 rfl rfl rfl
      have cB4_1 := ((HB4_16.out.drew.ext hs_.1)).cell 1 rfl
      refine Rn.val fun K_ hK_ => ?_
      go_simp
      exact hK_.out _ (Ext.refl _)
    refine RnL.cons (fun g16 A_ W_ hs_ => ?_) ?_
    · have q153_ := hs_.val 4 rfl rfl rfl
      have q155_ := hs_.val 6 rfl rfl rfl
      refine Rn.mem fun K_ hK_ => ?_
      go_simp
      exact hK_.out
    refine RnL.cons (fun g16 A_ W_ hs_ => ?_) ?_
    · have q156_ := (hs_.mem 7 rfl rfl rfl).1
      refine Rn.val fun K_ hK_ => ?_
      go_simp
      refine (right15_b [qs X, qs Y] 2 (g16 7) true _ (HG.out.ext (HX16.out.drew.trans hs_.1)) rfl (by decide) (sizes2 (HXB.out.len (by decide)) (HYB.out.len (by decide))) (show [qs X, qs Y].all rq = true by rw [List.all_cons, List.all_cons, rq_qs HXB.out, rq_qs HYB.out]; rfl) ((hs_.mem 7 rfl rfl rfl).2.2 rfl)).mono ?_; rintro e W9_ ⟨rfl, e9_⟩; exact hK_.out _ e9_
    refine RnL.cons (fun g16 A_ W_ hs_ => ?_) ?_
    · have q151_ := hs_.val 2 rfl rfl rfl
      have q157_ := hs_.val 8 rfl rfl rfl
      refine Rn.val fun K_ hK_ => ?_
      go_simp
      exact hK_.out _ (Ext.refl _)
    refine RnL.cons (fun g16 A_ W_ hs_ => ?_) ?_
    · have q158_ := hs_.val 9 rfl rfl rfl
      refine Rn.val fun K_ hK_ => ?_
      go_simp
      exact hK_.out _ (Ext.refl _)
    refine RnL.cons (fun g16 A_ W_ hs_ => ?_) ?_
    · have q10_ := (hs_.old 10 (by kernel_rfl) : A_.tmps[10]?.getD undef = .pointer (some ⟨w5.heap.size, 0, none⟩))
      refine Rn.val fun K_ hK_ => ?_
      go_simp
      exact hK_.out _ (Ext.refl _)
    refine RnL.cons (fun g16 A_ W_ hs_ => ?_) ?_
    · have q160_ := hs_.val 11 rfl rfl rfl
      have cB4_2 := ((HB4_16.out.drew.ext hs_.1)).cell 2 rfl
      refine Rn.val fun K_ hK_ => ?_
      go_simp
      exact hK_.out _ (Ext.refl _)
    refine RnL.cons (fun g16 A_ W_ hs_ => ?_) ?_
    · have q161_ := hs_.val 12 rfl rfl rfl
      refine Rn.val fun K_ hK_ => ?_
      go_simp
      exact hK_.out _ (Ext.refl _)
    refine RnL.cons (fun g16 A_ W_ hs_ => ?_) ?_
    · have q159_ := hs_.val 10 rfl rfl rfl
      have q162_ := hs_.val 13 rfl rfl rfl
      refine Rn.val fun K_ hK_ => ?_
      go_simp
      exact hK_.out _ (Ext.refl _)
    refine RnL.cons (fun g16 A_ W_ hs_ => ?_) ?_
    · have q163_ := hs_.val 14 rfl rfl rfl
      refine Rn.val fun K_ hK_ => ?_
      go_simp
      exact hK_.out _ (Ext.refl _)
    refine RnL.cons (fun g16 A_ W_ hs_ => ?_) ?_
    · have q10_ := (hs_.old 10 (by kernel_rfl) : A_.tmps[10]?.getD undef = .pointer (some ⟨w5.heap.size, 0, none⟩))
      have cB4_0 := ((HB4_16.out.drew.ext hs_.1)).cell 0 rfl
      have cB4_1 := ((HB4_16.out.drew.ext hs_.1)).cell 1 rfl
      have cB4_2 := ((HB4_16.out.drew.ext hs_.1)).cell 2 rfl
      refine Rn.val fun K_ hK_ => ?_
      go_simp
      exact hK_.out _ (Ext.refl _)
    refine RnL.cons (fun g16 A_ W_ hs_ => ?_) ?_
    · have q4_ := (hs_.old 4 (by kernel_rfl) : A_.tmps[4]?.getD undef = .pointer (some ⟨w.heap.size + 1, 0, none⟩))
      refine Rn.val fun K_ hK_ => ?_
      go_simp
      exact hK_.out _ (Ext.refl _)
    refine RnL.cons (fun g16 A_ W_ hs_ => ?_) ?_
    · have q166_ := hs_.val 17 rfl rfl rfl
      have cB1_0 := ((HB1_16.out.drew.ext hs_.1)).cell 0 rfl
      have cB1_1 := ((HB1_16.out.drew.ext hs_.1)).cell 1 rfl
      refine Rn.val fun K_ hK_ => ?_
      go_simp
      exact hK_.out _ (Ext.refl _)
    refine RnL.cons (fun g16 A_ W_ hs_ => ?_) ?_
    · have q165_ := hs_.val 16 rfl rfl rfl
      have q167_ := hs_.val 18 rfl rfl rfl
      refine Rn.val fun K_ hK_ => ?_
      go_simp
      refine (lfall_m X Y a p _ (HG.out.ext (HX16.out.drew.trans hs_.1)) HXB.out HYB.out HA4.out HFA.out).mono ?_; rintro e W9_ ⟨rfl, e9_⟩; exact hK_.out _ e9_
    refine RnL.cons (fun g16 A_ W_ hs_ => ?_) ?_
    · have q4_ := (hs_.old 4 (by kernel_rfl) : A_.tmps[4]?.getD undef = .pointer (some ⟨w.heap.size + 1, 0, none⟩))
      refine Rn.val fun K_ hK_ => ?_
      go_simp
      exact hK_.out _ (Ext.refl _)
    refine RnL.cons (fun g16 A_ W_ hs_ => ?_) ?_
    · have q169_ := hs_.val 20 rfl rfl rfl
      have cB1_2 := ((HB1_16.out.drew.ext hs_.1)).cell 2 rfl
      refine Rn.val fun K_ hK_ => ?_
      go_simp
      exact hK_.out _ (Ext.refl _)
    refine RnL.cons (fun g16 A_ W_ hs_ => ?_) ?_
    · have q168_ := hs_.val 19 rfl rfl rfl
      have q170_ := hs_.val 21 rfl rfl rfl
      refine Rn.val fun K_ hK_ => ?_
      go_simp
      exact hK_.out _ (Ext.refl _)
    refine RnL.cons (fun g16 A_ W_ hs_ => ?_) ?_
    · have q164_ := hs_.val 15 rfl rfl rfl
      have q171_ := hs_.val 22 rfl rfl rfl
      refine Rn.val fun K_ hK_ => ?_
      go_simp
      exact hK_.out _ (Ext.refl _)
    refine RnL.cons (fun g16 A_ W_ hs_ => ?_) ?_
    · have q172_ := hs_.val 23 rfl rfl rfl
      refine Rn.val fun K_ hK_ => ?_
      go_simp
      exact hK_.out _ (Ext.refl _)
    refine RnL.cons (fun g16 A_ W_ hs_ => ?_) ?_
    · have q10_ := (hs_.old 10 (by kernel_rfl) : A_.tmps[10]?.getD undef = .pointer (some ⟨w5.heap.size, 0, none⟩))
      have cB4_0 := ((HB4_16.out.drew.ext hs_.1)).cell 0 rfl
      have cB4_1 := ((HB4_16.out.drew.ext hs_.1)).cell 1 rfl
      have cB4_2 := ((HB4_16.out.drew.ext hs_.1)).cell 2 rfl
      refine Rn.val fun K_ hK_ => ?_
      go_simp
      exact hK_.out _ (Ext.refl _)
    refine RnL.cons (fun g16 A_ W_ hs_ => ?_) ?_
    · have q5_ := (hs_.old 5 (by kernel_rfl) : A_.tmps[5]?.getD undef = .pointer (some ⟨w.heap.size + 1 + 1, 0, none⟩))
      refine Rn.val fun K_ hK_ => ?_
      go_simp
      exact hK_.out _ (Ext.refl _)
    refine RnL.cons (fun g16 A_ W_ hs_ => ?_) ?_
    · have q175_ := hs_.val 26 rfl rfl rfl
      have cB2_0 := ((HB2_16.out.drew.ext hs_.1)).cell 0 rfl
      have cB2_1 := ((HB2_16.out.drew.ext hs_.1)).cell 1 rfl
      refine Rn.val fun K_ hK_ => ?_
      go_simp
      exact hK_.out _ (Ext.refl _)
    refine RnL.cons (fun g16 A_ W_ hs_ => ?_) ?_
    · have q174_ := hs_.val 25 rfl rfl rfl
      have q176_ := hs_.val 27 rfl rfl rfl
      refine Rn.val fun K_ hK_ => ?_
      go_simp
      refine (lfall_m X Y b q _ (HG.out.ext (HX16.out.drew.trans hs_.1)) HXB.out HYB.out HB4.out HFB.out).mono ?_; rintro e W9_ ⟨rfl, e9_⟩; exact hK_.out _ e9_
    refine RnL.cons (fun g16 A_ W_ hs_ => ?_) ?_
    · have q5_ := (hs_.old 5 (by kernel_rfl) : A_.tmps[5]?.getD undef = .pointer (some ⟨w.heap.size + 1 + 1, 0, none⟩))
      refine Rn.val fun K_ hK_ => ?_
      go_simp
      exact hK_.out _ (Ext.refl _)
    refine RnL.cons (fun g16 A_ W_ hs_ => ?_) ?_
    · have q178_ := hs_.val 29 rfl rfl rfl
      have cB2_2 := ((HB2_16.out.drew.ext hs_.1)).cell 2 rfl
      refine Rn.val fun K_ hK_ => ?_
      go_simp
      exact hK_.out _ (Ext.refl _)
    refine RnL.cons (fun g16 A_ W_ hs_ => ?_) ?_
    · have q177_ := hs_.val 28 rfl rfl rfl
      have q179_ := hs_.val 30 rfl rfl rfl
      refine Rn.val fun K_ hK_ => ?_
      go_simp
      exact hK_.out _ (Ext.refl _)
    refine RnL.cons (fun g16 A_ W_ hs_ => ?_) ?_
    · have q173_ := hs_.val 24 rfl rfl rfl
      have q180_ := hs_.val 31 rfl rfl rfl
      refine Rn.val fun K_ hK_ => ?_
      go_simp
      exact hK_.out _ (Ext.refl _)
    refine RnL.cons (fun g16 A_ W_ hs_ => ?_) ?_
    · have q181_ := hs_.val 32 rfl rfl rfl
      refine Rn.val fun K_ hK_ => ?_
      go_simp
      exact hK_.out _ (Ext.refl _)
    exact RnL.nil
  simp only [fs, Kd.value, puts, Act.put, List.setIfInBounds_toArray, List.set_cons_zero, List.set_cons_succ, Nat.reduceAdd]
  have HX17 : Hid (Ext w w17) := Lib.hid (HX16.out.drew.trans hx_)
  have HB10_17 : Hid (Blk w17 (g16 7) #[.string (qs X), .string (qs Y)] 22) := Lib.hid (hm_ 7 _ _ _ _ rfl).2; have HGEB10 : Hid (w.heap.size ≤ g16 7) := Lib.hid (Nat.le_trans HX16.out.size (hm_ 7 _ _ _ _ rfl).1)
  clear hx_ hm_ hne_
  generalize g16 7 = i10 at *
  clear g16
  go_wp2
  go_ret
  exact ⟨rfl, HX17.out⟩

set_option maxRecDepth 100000 in
set_option maxHeartbeats 16000000 in
theorem falls15_UR (n : V3) (a : P2) (b : P2) (p q : Rat) (en ea eb : Int) (w : World) (g : Gd w) (hsz : [qs n.x, qs n.y, qs n.z, qs a.x, qs a.y, qs p, qs b.x, qs b.y, qs q].all sz24 = true) (hen : NErr ⟨qs n.x, qs n.y, qs n.z⟩ 0) (hea : HErr ⟨qs a.x, qs a.y⟩ 0) (h0 : n.z = 0) (heb : HErr ⟨qs b.x, qs b.y⟩ 0) (hd : a.x * b.y - a.y * b.x ≠ 0) : Calls Tryz.prog 7 #[.agg #[.string (qs n.x), .string (qs n.y), .string (qs n.z)], .agg #[.string (qs a.x), .string (qs a.y), .string (qs p)], .agg #[.string (qs b.x), .string (qs b.y), .string (qs q)]] w (Ret w (.bool true)) := by
  have HEN := Lib.hid hen
  have HEA := Lib.hid hea
  have HEB := Lib.hid heb
  have HG := Lib.hid g
  clear hen hea heb g
  have HSZ := Lib.hid hsz
  simp only [List.all_cons, List.all_nil, Bool.and_true, Bool.and_eq_true, sz24_true] at hsz
  obtain ⟨s0, s1, s2, s3, s4, s5, s6, s7, s8⟩ := hsz
  have HN4 : Hid (VB 24 n) := Lib.hid ⟨qb_of_size s0, qb_of_size s1, qb_of_size s2⟩
  have HA4 : Hid (PB 24 a) := Lib.hid ⟨qb_of_size s3, qb_of_size s4⟩
  have HP : Hid (QB 24 p) := Lib.hid (qb_of_size s5); have HB4 : Hid (PB 24 b) := Lib.hid ⟨qb_of_size s6, qb_of_size s7⟩; have HQ : Hid (QB 24 q) := Lib.hid (qb_of_size s8)
  clear s0 s1 s2 s3 s4 s5 s6 s7 s8
  have h0_t := qs_is0 h0
  have H0 := Lib.hid h0; clear h0
  have hc_d : (qcmp (a.x * b.y) (a.y * b.x) == 0) = false := beq_eq_false_iff_ne.2 (fun e => hd (by have := qcmp_eq0 e; grind))
  have HD := Lib.hid hd
  obtain ⟨X, eX⟩ : ∃ X, (p * b.y - a.y * q) / (a.x * b.y - a.y * b.x) = X := ⟨_, rfl⟩
  obtain ⟨Y, eY⟩ : ∃ Y, (a.x * q - p * b.x) / (a.x * b.y - a.y * b.x) = Y := ⟨_, rfl⟩
  have HFA := Lib.hid (show X * a.x + Y * a.y = p by rw [← eX, ← eY]; exact fall_a hd)
  have HFB := Lib.hid (show X * b.x + Y * b.y = q by rw [← eX, ← eY]; exact fall_b hd)
  have HXB : Hid (QB 200 X) := Lib.hid (eX ▸ ((((HP.out.mul HB4.out.y).sub (HA4.out.y.mul HQ.out)).div ((HA4.out.x.mul HB4.out.y).sub (HA4.out.y.mul HB4.out.x)) (by decide)).mono (by decide)))
  have HYB : Hid (QB 200 Y) := Lib.hid (eY ▸ ((((HA4.out.x.mul HQ.out).sub (HP.out.mul HB4.out.x)).div ((HA4.out.x.mul HB4.out.y).sub (HA4.out.y.mul HB4.out.x)) (by decide)).mono (by decide)))
  have HEX := Lib.hid eX; have HEY := Lib.hid eY; clear hd eX eY
  go_enter Tryz.func7, Tryz.ntmps7
  go_wp2_with fail
  refine (known15_c _ (HG.out.ext ((((Ext.refl w).alloc _).alloc _).alloc _))).mono ?_; rintro e w1 ⟨rfl, e1⟩
  have HX1 : Hid (Ext w w1) := Lib.hid (((((Ext.refl w).alloc _).alloc _).alloc _).trans e1)
  have HB0_1 : Hid (Blk w1 (w.heap.size) #[.string (qs n.x), .string (qs n.y), .string (qs n.z)] 37) := Lib.hid (Blk.ext (((Blk.new' (w := _) (cs := #[.string (qs n.x), .string (qs n.y), .string (qs n.z)]) (t := 37) (by first | rfl | (simp only [World.size_alloc]; done) | (simp only [World.size_alloc]; omega) | simp)).alloc _).alloc _) e1)
  have HB1_1 : Hid (Blk w1 (w.heap.size + 1) #[.string (qs a.x), .string (qs a.y), .string (qs p)] 55) := Lib.hid (Blk.ext ((Blk.new' (w := _) (cs := #[.string (qs a.x), .string (qs a.y), .string (qs p)]) (t := 55) (by first | rfl | (simp only [World.size_alloc]; done) | (simp only [World.size_alloc]; omega) | simp)).alloc _) e1)
  have HB2_1 : Hid (Blk w1 (w.heap.size + 1 + 1) #[.string (qs b.x), .string (qs b.y), .string (qs q)] 55) := Lib.hid (Blk.ext (Blk.new' (w := _) (cs := #[.string (qs b.x), .string (qs b.y), .string (qs q)]) (t := 55) (by first | rfl | (simp only [World.size_alloc]; done) | (simp only [World.size_alloc]; omega) | simp)) e1)
  have HGEB0 : Hid (w.heap.size ≤ w.heap.size) := Lib.hid (by first | omega | (simp only []; omega) | (simp; omega))
  have HGEB1 : Hid (w.heap.size ≤ w.heap.size + 1) := Lib.hid (by first | omega | (simp only []; omega) | (simp; omega))
  have HGEB2 : Hid (w.heap.size ≤ w.heap.size + 1 + 1) := Lib.hid (by first | omega | (simp only []; omega) | (simp; omega))
  clear e1
  have c0_0 := HB0_1.out.cell 0 rfl
  have c0_1 := HB0_1.out.cell 1 rfl
  have c0_2 := HB0_1.out.cell 2 rfl
  have c1_0 := HB1_1.out.cell 0 rfl
  have c1_1 := HB1_1.out.cell 1 rfl
  have c1_2 := HB1_1.out.cell 2 rfl
  have c2_0 := HB2_1.out.cell 0 rfl
  have c2_1 := HB2_1.out.cell 1 rfl
  have c2_2 := HB2_1.out.cell 2 rfl
  go_wp2_with fail
  refine (short15_b [qs n.x, qs n.y, qs n.z, qs a.x, qs a.y, qs p, qs b.x, qs b.y, qs q] 9 (w1.heap.size) true _ rfl (by decide) HSZ.out (Blk.new' (w := _) (cs := #[.string (qs n.x), .string (qs n.y), .string (qs n.z), .string (qs a.x), .string (qs a.y), .string (qs p), .string (qs b.x), .string (qs b.y), .string (qs q)]) (t := 22) (by first | rfl | (simp only [World.size_alloc]; done) | (simp only [World.size_alloc]; omega) | simp))).mono ?_; rintro e w2 ⟨rfl, e2⟩
  have HX2 : Hid (Ext w w2) := Lib.hid ((HX1.out.alloc _).trans e2)
  have HB0_2 : Hid (Blk w2 (w.heap.size) #[.string (qs n.x), .string (qs n.y), .string (qs n.z)] 37) := Lib.hid (Blk.ext (HB0_1.out.alloc _) e2)
  have HB1_2 : Hid (Blk w2 (w.heap.size + 1) #[.string (qs a.x), .string (qs a.y), .string (qs p)] 55) := Lib.hid (Blk.ext (HB1_1.out.alloc _) e2)
  have HB2_2 : Hid (Blk w2 (w.heap.size + 1 + 1) #[.string (qs b.x), .string (qs b.y), .string (qs q)] 55) := Lib.hid (Blk.ext (HB2_1.out.alloc _) e2)
  have HB3_2 : Hid (Blk w2 (w1.heap.size) #[.string (qs n.x), .string (qs n.y), .string (qs n.z), .string (qs a.x), .string (qs a.y), .string (qs p), .string (qs b.x), .string (qs b.y), .string (qs q)] 22) := Lib.hid (Blk.ext (Blk.new' (w := _) (cs := #[.string (qs n.x), .string (qs n.y), .string (qs n.z), .string (qs a.x), .string (qs a.y), .string (qs p), .string (qs b.x), .string (qs b.y), .string (qs q)]) (t := 22) (by first | rfl | (simp only [World.size_alloc]; done) | (simp only [World.size_alloc]; omega) | simp)) e2)
  have HGEB3 : Hid (w.heap.size ≤ w1.heap.size) := Lib.hid (by have := HX1.out.size; first | omega | (simp only []; omega) | (simp; omega))
  clear e2 c0_0 c0_1 c0_2 c1_0 c1_1 c1_2 c2_0 c2_1 c2_2
  have c0_0 := HB0_2.out.cell 0 rfl
  have c0_1 := HB0_2.out.cell 1 rfl
  have c0_2 := HB0_2.out.cell 2 rfl
  have c1_0 := HB1_2.out.cell 0 rfl
  have c1_1 := HB1_2.out.cell 1 rfl
  go_wp2_with fail
  refine (aapp_u n ⟨qs a.x, qs a.y⟩ _ (HG.out.ext HX2.out) HEN.out HEA.out H0.out).mono ?_; rintro e w3 ⟨rfl, e3⟩
  have HX3 : Hid (Ext w w3) := Lib.hid (HX2.out.trans e3)
  have HB0_3 := Lib.hid (Blk.ext HB0_2.out e3)
  have HB1_3 := Lib.hid (Blk.ext HB1_2.out e3)
  have HB2_3 := Lib.hid (Blk.ext HB2_2.out e3)
  clear e3 c0_0 c0_1 c0_2 c1_0 c1_1
  have c0_0 := HB0_3.out.cell 0 rfl
  have c0_1 := HB0_3.out.cell 1 rfl
  have c0_2 := HB0_3.out.cell 2 rfl
  go_wp2_with fail
  refine (lnorm_l (t := ⟨qs n.x, qs n.y, qs n.z⟩) _ (HG.out.ext HX3.out) HEN.out).mono ?_; rintro e w4 ⟨rfl, e4⟩
  have HX4 : Hid (Ext w w4) := Lib.hid (HX3.out.trans e4)
  have HB0_4 := Lib.hid (Blk.ext HB0_3.out e4)
  have HB1_4 := Lib.hid (Blk.ext HB1_3.out e4)
  have HB2_4 := Lib.hid (Blk.ext HB2_3.out e4)
  clear e4 c0_0 c0_1 c0_2
  have c1_0 := HB1_4.out.cell 0 rfl
  have c1_1 := HB1_4.out.cell 1 rfl
  go_wp2_with fail
  refine (ldir_l (t := ⟨qs a.x, qs a.y⟩) _ (HG.out.ext HX4.out) HEA.out).mono ?_; rintro e w5 ⟨rfl, e5⟩
  have HX5 : Hid (Ext w w5) := Lib.hid (HX4.out.trans e5)
  have HB0_5 := Lib.hid (Blk.ext HB0_4.out e5)
  have HB1_5 := Lib.hid (Blk.ext HB1_4.out e5)
  have HB2_5 := Lib.hid (Blk.ext HB2_4.out e5)
  clear e5 c1_0 c1_1
  have c0_2 := HB0_5.out.cell 2 rfl
  have c1_0 := HB1_5.out.cell 0 rfl
  have c1_1 := HB1_5.out.cell 1 rfl
  have c1_2 := HB1_5.out.cell 2 rfl
  have c2_0 := HB2_5.out.cell 0 rfl
  have c2_1 := HB2_5.out.cell 1 rfl
  have c2_2 := HB2_5.out.cell 2 rfl
  go_wp2_with fail
  refine ((HEX.out ▸ HEY.out ▸ atrue_ok a b p q _ (HG.out.ext HX5.out) HA4.out HB4.out HP.out HQ.out HEA.out HEB.out HD.out)).mono ?_; rintro e w6 ⟨rfl, e6⟩
  have HX6 : Hid (Ext w w6) := Lib.hid (HX5.out.trans e6)
  have HB1_6 := Lib.hid (Blk.ext HB1_5.out e6)
  have HB2_6 := Lib.hid (Blk.ext HB2_5.out e6)
  clear e6 c0_2 c1_0 c1_1 c1_2 c2_0 c2_1 c2_2
  go_upto_region 15 with fail
  refine wp_name (fun W => Ext w W ∧ Blk W (w.heap.size + 1) #[.string (qs a.x), .string (qs a.y), .string (qs p)] 55 ∧ Blk W (w.heap.size + 1 + 1) #[.string (qs b.x), .string (qs b.y), .string (qs q)] 55 ∧ Blk W (w6.heap.size) #[.string (qs X), .string (qs Y), .string ⟨#[49]⟩] 37) ⟨(HX6.out.alloc _), (HB1_6.out.alloc _), (HB2_6.out.alloc _), (Blk.new' (w := _) (cs := #[.string (qs X), .string (qs Y), .string ⟨#[49]⟩]) (t := 37) (by first | rfl | (simp only [World.size_alloc]; done) | (simp only [World.size_alloc]; omega) | simp))⟩ ?_
  rintro w7 ⟨e7, bB1_7, bB2_7, bB4_7⟩
  have HX7 := Lib.hid e7; have HB1_7 := Lib.hid bB1_7; have HB2_7 := Lib.hid bB2_7; have HB4_7 := Lib.hid bB4_7
  have HGEB4 : Hid (w.heap.size ≤ w6.heap.size) := Lib.hid (by have := HX6.out.size; first | omega | (simp only []; omega) | (simp; omega))
  clear e7 bB1_7 bB2_7 bB4_7
  have c1_0 := HB1_7.out.cell 0 rfl
  have c1_1 := HB1_7.out.cell 1 rfl
  have c1_2 := HB1_7.out.cell 2 rfl
  have c2_0 := HB2_7.out.cell 0 rfl
  have c2_1 := HB2_7.out.cell 1 rfl
  have c2_2 := HB2_7.out.cell 2 rfl
  go_wp2_with fail
  refine wp_loop_rounds 3 ?_
  rw [rounds_succ]
  clear c1_0 c1_1 c1_2 c2_0 c2_1 c2_2
  go_upto_region 17 with fail
  refine wp_name (fun W => Ext w W ∧ Blk W (w.heap.size + 1) #[.string (qs a.x), .string (qs a.y), .string (qs p)] 55 ∧ Blk W (w.heap.size + 1 + 1) #[.string (qs b.x), .string (qs b.y), .string (qs q)] 55 ∧ Blk W (w6.heap.size) #[.string (qs X), .string (qs Y), .string ⟨#[49]⟩] 37 ∧ Blk W (w7.heap.size) #[.string (qs a.x), .string (qs a.y), .string (qs p), .string (qs b.x), .string (qs b.y), .string (qs q)] 55) ⟨(HX7.out.alloc _), (HB1_7.out.alloc _), (HB2_7.out.alloc _), (HB4_7.out.alloc _), (Blk.new' (w := _) (cs := #[.string (qs a.x), .string (qs a.y), .string (qs p), .string (qs b.x), .string (qs b.y), .string (qs q)]) (t := 55) (by first | rfl | (simp only [World.size_alloc]; done) | (simp only [World.size_alloc]; omega) | simp))⟩ ?_
  rintro w8 ⟨e8, bB1_8, bB2_8, bB4_8, bB5_8⟩
  have HX8 := Lib.hid e8; have HB1_8 := Lib.hid bB1_8; have HB2_8 := Lib.hid bB2_8; have HB4_8 := Lib.hid bB4_8; have HB5_8 := Lib.hid bB5_8
  have HGEB5 : Hid (w.heap.size ≤ w7.heap.size) := Lib.hid (by have := HX7.out.size; first | omega | (simp only []; omega) | (simp; omega))
  clear e8 bB1_8 bB2_8 bB4_8 bB5_8
  have c5_0 := HB5_8.out.cell 0 rfl
  have c5_1 := HB5_8.out.cell 1 rfl
  have c5_2 := HB5_8.out.cell 2 rfl
  go_upto_region 19 with fail
  refine wp_name (fun W => Ext w W ∧ Blk W (w.heap.size + 1) #[.string (qs a.x), .string (qs a.y), .string (qs p)] 55 ∧ Blk W (w.heap.size + 1 + 1) #[.string (qs b.x), .string (qs b.y), .string (qs q)] 55 ∧ Blk W (w6.heap.size) #[.string (qs X), .string (qs Y), .string ⟨#[49]⟩] 37 ∧ Blk W (w7.heap.size) #[.string (qs a.x), .string (qs a.y), .string (qs p), .string (qs b.x), .string (qs b.y), .string (qs q)] 55 ∧ Blk W (w8.heap.size) #[.string (qs a.x), .string (qs a.y), .string (qs p)] 55) ⟨(HX8.out.alloc _), (HB1_8.out.alloc _), (HB2_8.out.alloc _), (HB4_8.out.alloc _), (HB5_8.out.alloc _), (Blk.new' (w := _) (cs := #[.string (qs a.x), .string (qs a.y), .string (qs p)]) (t := 55) (by first | rfl | (simp only [World.size_alloc]; done) | (simp only [World.size_alloc]; omega) | simp))⟩ ?_
  rintro w9 ⟨e9, bB1_9, bB2_9, bB4_9, bB5_9, bB6_9⟩
  have HX9 := Lib.hid e9; have HB1_9 := Lib.hid bB1_9; have HB2_9 := Lib.hid bB2_9; have HB4_9 := Lib.hid bB4_9; have HB5_9 := Lib.hid bB5_9; have HB6_9 := Lib.hid bB6_9
  have HGEB6 : Hid (w.heap.size ≤ w8.heap.size) := Lib.hid (by have := HX8.out.size; first | omega | (simp only []; omega) | (simp; omega))
  clear e9 bB1_9 bB2_9 bB4_9 bB5_9 bB6_9 c5_0 c5_1 c5_2
  have c6_0 := HB6_9.out.cell 0 rfl
  have c6_1 := HB6_9.out.cell 1 rfl
  go_wp2_with fail
  refine (ldir_l (t := ⟨qs a.x, qs a.y⟩) _ (HG.out.ext HX9.out) HEA.out).mono ?_; rintro e w10 ⟨rfl, e10⟩
  have HX10 : Hid (Ext w w10) := Lib.hid (HX9.out.trans e10)
  have HB1_10 := Lib.hid (Blk.ext HB1_9.out e10)
  have HB2_10 := Lib.hid (Blk.ext HB2_9.out e10)
  have HB4_10 := Lib.hid (Blk.ext HB4_9.out e10)
  have HB5_10 := Lib.hid (Blk.ext HB5_9.out e10)
  have HB6_10 := Lib.hid (Blk.ext HB6_9.out e10)
  clear e10 c6_0 c6_1
  have c6_2 := HB6_10.out.cell 2 rfl
  go_wp2_with fail
  refine (right15_b [qs p] 1 (w10.heap.size) true _ (HG.out.ext (HX10.out.alloc _)) rfl (by decide) (sizes1' ((HP.out.mono (by decide) : QB 200 p).len (by decide))) (all1' (rq_qs (HP.out.mono (by decide)))) (Blk.new' (w := _) (cs := #[.string (qs p)]) (t := 22) (by first | rfl | (simp only [World.size_alloc]; done) | (simp only [World.size_alloc]; omega) | simp))).mono ?_; rintro e w11 ⟨rfl, e11⟩
  have HX11 : Hid (Ext w w11) := Lib.hid ((HX10.out.alloc _).trans e11)
  have HB1_11 : Hid (Blk w11 (w.heap.size + 1) #[.string (qs a.x), .string (qs a.y), .string (qs p)] 55) := Lib.hid (Blk.ext (HB1_10.out.alloc _) e11)
  have HB2_11 : Hid (Blk w11 (w.heap.size + 1 + 1) #[.string (qs b.x), .string (qs b.y), .string (qs q)] 55) := Lib.hid (Blk.ext (HB2_10.out.alloc _) e11)
  have HB4_11 : Hid (Blk w11 (w6.heap.size) #[.string (qs X), .string (qs Y), .string ⟨#[49]⟩] 37) := Lib.hid (Blk.ext (HB4_10.out.alloc _) e11)
  have HB5_11 : Hid (Blk w11 (w7.heap.size) #[.string (qs a.x), .string (qs a.y), .string (qs p), .string (qs b.x), .string (qs b.y), .string (qs q)] 55) := Lib.hid (Blk.ext (HB5_10.out.alloc _) e11)
  have HB7_11 : Hid (Blk w11 (w10.heap.size) #[.string (qs p)] 22) := Lib.hid (Blk.ext (Blk.new' (w := _) (cs := #[.string (qs p)]) (t := 22) (by first | rfl | (simp only [World.size_alloc]; done) | (simp only [World.size_alloc]; omega) | simp)) e11)
  have HGEB7 : Hid (w.heap.size ≤ w10.heap.size) := Lib.hid (by have := HX10.out.size; first | omega | (simp only []; omega) | (simp; omega))
  clear e11 c6_2
  go_wp2_with fail
  rw [rounds_succ]
  have c5_3 := HB5_11.out.cell 3 rfl
  have c5_4 := HB5_11.out.cell 4 rfl
  have c5_5 := HB5_11.out.cell 5 rfl
  go_upto_region 19 with fail
  refine wp_name (fun W => Ext w W ∧ Blk W (w.heap.size + 1) #[.string (qs a.x), .string (qs a.y), .string (qs p)] 55 ∧ Blk W (w.heap.size + 1 + 1) #[.string (qs b.x), .string (qs b.y), .string (qs q)] 55 ∧ Blk W (w6.heap.size) #[.string (qs X), .string (qs Y), .string ⟨#[49]⟩] 37 ∧ Blk W (w11.heap.size) #[.string (qs b.x), .string (qs b.y), .string (qs q)] 55) ⟨(HX11.out.alloc _), (HB1_11.out.alloc _), (HB2_11.out.alloc _), (HB4_11.out.alloc _), (Blk.new' (w := _) (cs := #[.string (qs b.x), .string (qs b.y), .string (qs q)]) (t := 55) (by first | rfl | (simp only [World.size_alloc]; done) | (simp only [World.size_alloc]; omega) | simp))⟩ ?_
  rintro w12 ⟨e12, bB1_12, bB2_12, bB4_12, bB8_12⟩
  have HX12 := Lib.hid e12; have HB1_12 := Lib.hid bB1_12; have HB2_12 := Lib.hid bB2_12; have HB4_12 := Lib.hid bB4_12; have HB8_12 := Lib.hid bB8_12
  have HGEB8 : Hid (w.heap.size ≤ w11.heap.size) := Lib.hid (by have := HX11.out.size; first | omega | (simp only []; omega) | (simp; omega))
  clear e12 bB1_12 bB2_12 bB4_12 bB8_12 c5_3 c5_4 c5_5
  have c8_0 := HB8_12.out.cell 0 rfl
  have c8_1 := HB8_12.out.cell 1 rfl
  go_wp2_with fail
  refine (ldir_l (t := ⟨qs b.x, qs b.y⟩) _ (HG.out.ext HX12.out) HEB.out).mono ?_; rintro e w13 ⟨rfl, e13⟩
  have HX13 : Hid (Ext w w13) := Lib.hid (HX12.out.trans e13)
  have HB1_13 := Lib.hid (Blk.ext HB1_12.out e13)
  have HB2_13 := Lib.hid (Blk.ext HB2_12.out e13)
  have HB4_13 := Lib.hid (Blk.ext HB4_12.out e13)
  have HB8_13 := Lib.hid (Blk.ext HB8_12.out e13)
  clear e13 c8_0 c8_1
  have c8_2 := HB8_13.out.cell 2 rfl
  go_wp2_with fail
  refine (right15_b [qs q] 1 (w13.heap.size) true _ (HG.out.ext (HX13.out.alloc _)) rfl (by decide) (sizes1' ((HQ.out.mono (by decide) : QB 200 q).len (by decide))) (all1' (rq_qs (HQ.out.mono (by decide)))) (Blk.new' (w := _) (cs := #[.string (qs q)]) (t := 22) (by first | rfl | (simp only [World.size_alloc]; done) | (simp only [World.size_alloc]; omega) | simp))).mono ?_; rintro e w14 ⟨rfl, e14⟩
  have HX14 : Hid (Ext w w14) := Lib.hid ((HX13.out.alloc _).trans e14)
  have HB1_14 : Hid (Blk w14 (w.heap.size + 1) #[.string (qs a.x), .string (qs a.y), .string (qs p)] 55) := Lib.hid (Blk.ext (HB1_13.out.alloc _) e14)
  have HB2_14 : Hid (Blk w14 (w.heap.size + 1 + 1) #[.string (qs b.x), .string (qs b.y), .string (qs q)] 55) := Lib.hid (Blk.ext (HB2_13.out.alloc _) e14)
  have HB4_14 : Hid (Blk w14 (w6.heap.size) #[.string (qs X), .string (qs Y), .string ⟨#[49]⟩] 37) := Lib.hid (Blk.ext (HB4_13.out.alloc _) e14)
  have HB9_14 : Hid (Blk w14 (w13.heap.size) #[.string (qs q)] 22) := Lib.hid (Blk.ext (Blk.new' (w := _) (cs := #[.string (qs q)]) (t := 22) (by first | rfl | (simp only [World.size_alloc]; done) | (simp only [World.size_alloc]; omega) | simp)) e14)
  have HGEB9 : Hid (w.heap.size ≤ w13.heap.size) := Lib.hid (by have := HX13.out.size; first | omega | (simp only []; omega) | (simp; omega))
  clear e14 c8_2
  go_wp2_with fail
  rw [rounds_succ]
  go_wp2_with fail
  refine wp_name (fun W => Ext w W ∧ Blk W (w.heap.size + 1) #[.string (qs a.x), .string (qs a.y), .string (qs p)] 55 ∧ Blk W (w.heap.size + 1 + 1) #[.string (qs b.x), .string (qs b.y), .string (qs q)] 55 ∧ Blk W (w6.heap.size) #[.string (qs X), .string (qs Y), .string ⟨#[49]⟩] 37) ⟨HX14.out, HB1_14.out, HB2_14.out, HB4_14.out⟩ ?_
  rintro w15 ⟨e15, bB1_15, bB2_15, bB4_15⟩
  have HX15 := Lib.hid e15; have HB1_15 := Lib.hid bB1_15; have HB2_15 := Lib.hid bB2_15; have HB4_15 := Lib.hid bB4_15
  clear e15 bB1_15 bB2_15 bB4_15
  refine region_lin [.val (.int .i64 0), .val (.bool true), .val (.bool true), .val (.pointer (some ⟨w.heap.size + 1, 0, none⟩)), .val (.pointer (some ⟨w.heap.size + 1, 0, none⟩)), .val (.string (qs a.x)), .val (.pointer (some ⟨w.heap.size + 1 + 1, 0, none⟩)), .val (.pointer (some ⟨w.heap.size + 1 + 1, 1, none⟩)), .val (.string (qs b.y)), .val (.string (qs (a.x * b.y))), .val (.pointer (some ⟨w.heap.size + 1, 0, none⟩)), .val (.pointer (some ⟨w.heap.size + 1, 1, none⟩)), .val (.string (qs a.y)), .val (.pointer (some ⟨w.heap.size + 1 + 1, 0, none⟩)), .val (.pointer (some ⟨w.heap.size + 1 + 1, 0, none⟩)), .val (.string (qs b.x)), .val (.string (qs (a.y * b.x))), .val (.int .i64 (qcmp (a.x * b.y) (a.y * b.x))), .val (.bool false), .val (.bool false)] (by kernel_rfl) (by kernel_rfl) (by kernel_rfl) ?_ (fun g15 w16 hx_ hm_ hne_ => ?_)
  · skip
    refine RnL.cons (fun g15 A_ W_ hs_ => ?_) ?_
    · have q9_ := (hs_.old 9 (by kernel_rfl) : A_.tmps[9]?.getD undef = .int .i64 0)
      refine Rn.val fun K_ hK_ => ?_
      go_simp
      exact hK_.out _ (Ext.refl _)
    refine RnL.cons (fun g15 A_ W_ hs_ => ?_) ?_
    · have q119_ := hs_.val 0 rfl rfl rfl
      refine Rn.val fun K_ hK_ => ?_
      go_simp
      exact hK_.out _ (Ext.refl _)
    refine RnL.cons (fun g15 A_ W_ hs_ => ?_) ?_
    · have q120_ := hs_.val 1 rfl rfl rfl
      refine Rn.val fun K_ hK_ => ?_
      go_simp
      exact hK_.out _ (Ext.refl _)
    refine RnL.cons (fun g15 A_ W_ hs_ => ?_) ?_
    · have q4_ := (hs_.old 4 (by kernel_rfl) : A_.tmps[4]?.getD undef = .pointer (some ⟨w.heap.size + 1, 0, none⟩))
      refine Rn.val fun K_ hK_ => ?_
      go_simp
      exact hK_.out _ (Ext.refl _)
    refine RnL.cons (fun g15 A_ W_ hs_ => ?_) ?_
    · have q122_ := hs_.val 3 rfl rfl rfl
      refine Rn.val fun K_ hK_ => ?_
      go_simp
      exact hK_.out _ (Ext.refl _)
    refine RnL.cons (fun g15 A_ W_ hs_ => ?_) ?_
    · have q123_ := hs_.val 4 rfl rfl rfl
      have cB1_0 := ((HB1_15.out.drew.ext hs_.1)).cell 0 rfl
      refine Rn.val fun K_ hK_ => ?_
      go_simp
      exact hK_.out _ (Ext.refl _)
    refine RnL.cons (fun g15 A_ W_ hs_ => ?_) ?_
    · have q5_ := (hs_.old 5 (by kernel_rfl) : A_.tmps[5]?.getD undef = .pointer (some ⟨w.heap.size + 1 + 1, 0, none⟩))
      refine Rn.val fun K_ hK_ => ?_
      go_simp
      exact hK_.out _ (Ext.refl _)
    refine RnL.cons (fun g15 A_ W_ hs_ => ?_) ?_
    · have q125_ := hs_.val 6 rfl rfl rfl
      refine Rn.val fun K_ hK_ => ?_
      go_simp
      exact hK_.out _ (Ext.refl _)
    refine RnL.cons (fun g15 A_ W_ hs_ => ?_) ?_
    · have q126_ := hs_.val 7 rfl rfl rfl
      have cB2_1 := ((HB2_15.out.drew.ext hs_.1)).cell 1 rfl
      refine Rn.val fun K_ hK_ => ?_
      go_simp
      exact hK_.out _ (Ext.refl _)
    refine RnL.cons (fun g15 A_ W_ hs_ => ?_) ?_
    · have q124_ := hs_.val 5 rfl rfl rfl
      have q127_ := hs_.val 8 rfl rfl rfl
      refine Rn.val fun K_ hK_ => ?_
      go_simp
      refine (rmul_c a.x b.y _ (HG.out.ext (HX15.out.drew.trans hs_.1)) HA4.out.x HB4.out.y (by omega) (by omega)).mono ?_; rintro e W9_ ⟨rfl, e9_⟩; exact hK_.out _ e9_
    refine RnL.cons (fun g15 A_ W_ hs_ => ?_) ?_
    · have q4_ := (hs_.old 4 (by kernel_rfl) : A_.tmps[4]?.getD undef = .pointer (some ⟨w.heap.size + 1, 0, none⟩))
      refine Rn.val fun K_ hK_ => ?_
      go_simp
      exact hK_.out _ (Ext.refl _)
    refine RnL.cons (fun g15 A_ W_ hs_ => ?_) ?_
    · have q129_ := hs_.val 10 rfl rfl rfl
      refine Rn.val fun K_ hK_ => ?_
      go_simp
      exact hK_.out _ (Ext.refl _)
    refine RnL.cons (fun g15 A_ W_ hs_ => ?_) ?_
    · have q130_ := hs_.val 11 rfl rfl rfl
      have cB1_1 := ((HB1_15.out.drew.ext hs_.1)).cell 1 rfl
      refine Rn.val fun K_ hK_ => ?_
      go_simp
      exact hK_.out _ (Ext.refl _)
    refine RnL.cons (fun g15 A_ W_ hs_ => ?_) ?_
    · have q5_ := (hs_.old 5 (by kernel_rfl) : A_.tmps[5]?.getD undef = .pointer (some ⟨w.heap.size + 1 + 1, 0, none⟩))
      refine Rn.val fun K_ hK_ => ?_
      go_simp
      exact hK_.out _ (Ext.refl _)
    refine RnL.cons (fun g15 A_ W_ hs_ => ?_) ?_
    · have q132_ := hs_.val 13 rfl rfl rfl
      refine Rn.val fun K_ hK_ => ?_
      go_simp
      exact hK_.out _ (Ext.refl _)
    refine RnL.cons (fun g15 A_ W_ hs_ => ?_) ?_
    · have q133_ := hs_.val 14 rfl rfl rfl
      have cB2_0 := ((HB2_15.out.drew.ext hs_.1)).cell 0 rfl
      refine Rn.val fun K_ hK_ => ?_
      go_simp
      exact hK_.out _ (Ext.refl _)
    refine RnL.cons (fun g15 A_ W_ hs_ => ?_) ?_
    · have q131_ := hs_.val 12 rfl rfl rfl
      have q134_ := hs_.val 15 rfl rfl rfl
      refine Rn.val fun K_ hK_ => ?_
      go_simp
      refine (rmul_c a.y b.x _ (HG.out.ext (HX15.out.drew.trans hs_.1)) HA4.out.y HB4.out.x (by omega) (by omega)).mono ?_; rintro e W9_ ⟨rfl, e9_⟩; exact hK_.out _ e9_
    refine RnL.cons (fun g15 A_ W_ hs_ => ?_) ?_
    · have q128_ := hs_.val 9 rfl rfl rfl
      have q135_ := hs_.val 16 rfl rfl rfl
      refine Rn.val fun K_ hK_ => ?_
      go_simp
      refine (rcompare_c (a.x * b.y) (a.y * b.x) _ (HG.out.ext (HX15.out.drew.trans hs_.1)) (HA4.out.x.mul HB4.out.y) (HA4.out.y.mul HB4.out.x) (by omega) (by omega)).mono ?_; rintro e W9_ ⟨rfl, e9_⟩; exact hK_.out _ e9_
    refine RnL.cons (fun g15 A_ W_ hs_ => ?_) ?_
    · have q136_ := hs_.val 17 rfl rfl rfl
      refine Rn.val fun K_ hK_ => ?_
      go_simp
      exact hK_.out _ (Ext.refl _)
    refine RnL.cons (fun g15 A_ W_ hs_ => ?_) ?_
    · have q121_ := hs_.val 2 rfl rfl rfl
      have q137_ := hs_.val 18 rfl rfl rfl
      refine Rn.val fun K_ hK_ => ?_
      go_simp
      exact hK_.out _ (Ext.refl _)
    exact RnL.nil
  simp only [fs, Kd.value, puts, Act.put, List.setIfInBounds_toArray, List.set_cons_zero, List.set_cons_succ]
  have HX16 : Hid (Ext w w16) := Lib.hid (HX15.out.drew.trans hx_)
  have HB1_16 := Lib.hid (HB1_15.out.drew.ext hx_)
  have HB2_16 := Lib.hid (HB2_15.out.drew.ext hx_)
  have HB4_16 := Lib.hid (HB4_15.out.drew.ext hx_)
  clear hx_ hm_ hne_
  go_wp2_with fail
  refine wp_name (fun W => Ext w W ∧ Blk W (w.heap.size + 1) #[.string (qs a.x), .string (qs a.y), .string (qs p)] 55 ∧ Blk W (w.heap.size + 1 + 1) #[.string (qs b.x), .string (qs b.y), .string (qs q)] 55 ∧ Blk W (w6.heap.size) #[.string (qs X), .string (qs Y), .string ⟨#[49]⟩] 37) ⟨HX16.out, HB1_16.out, HB2_16.out, HB4_16.out⟩ ?_
  rintro w17 ⟨e17, bB1_17, bB2_17, bB4_17⟩
  have HX17 := Lib.hid e17; have HB1_17 := Lib.hid bB1_17; have HB2_17 := Lib.hid bB2_17; have HB4_17 := Lib.hid bB4_17
  clear e17 bB1_17 bB2_17 bB4_17
  refine region_lin [.val (.int .i64 0), .val (.bool true), .val (.bool true), .val (.pointer (some ⟨w6.heap.size, 0, none⟩)), .val (.string (qs X)), .val (.pointer (some ⟨w6.heap.size, 1, none⟩)), .val (.string (qs Y)), .mem (fun b_ => .slice (some ⟨b_, 0, none⟩) 2 2) #[.string (qs X), .string (qs Y)] 22 Option.none, .val (.bool true), .val (.bool true), .val (.bool true), .val (.pointer (some ⟨w6.heap.size, 2, none⟩)), .val (.string ⟨#[49]⟩), .val (.bool true), .val (.bool true), .val (.bool true), .val (.agg #[.string (qs X), .string (qs Y), .string ⟨#[49]⟩]), .val (.pointer (some ⟨w.heap.size + 1, 0, none⟩)), .val (.agg #[.string (qs a.x), .string (qs a.y)]), .val (.string (qs p)), .val (.pointer (some ⟨w.heap.size + 1, 2, none⟩)), .val (.string (qs p)), .val (.bool true), .val (.bool true), .val (.bool true), .val (.agg #[.string (qs X), .string (qs Y), .string ⟨#[49]⟩]), .val (.pointer (some ⟨w.heap.size + 1 + 1, 0, none⟩)), .val (.agg #[.string (qs b.x), .string (qs b.y)]), .val (.string (qs q)), .val (.pointer (some ⟨w.heap.size + 1 + 1, 2, none⟩)), .val (.string (qs q)), .val (.bool true), .val (.bool true), .val (.bool true)] (by kernel_rfl) (by kernel_rfl) (by kernel_rfl) ?_ (fun g17 w18 hx_ hm_ hne_ => ?_)
  · skip
    refine RnL.cons (fun g17 A_ W_ hs_ => ?_) ?_
    · have q11_ := (hs_.old 11 (by kernel_rfl) : A_.tmps[11]?.getD undef = .int .i64 0)
      refine Rn.val fun K_ hK_ => ?_
      go_simp
      exact hK_.out _ (Ext.refl _)
    refine RnL.cons (fun g17 A_ W_ hs_ => ?_) ?_
    · have q149_ := hs_.val 0 rfl rfl rfl
      refine Rn.val fun K_ hK_ => ?_
      go_simp
      exact hK_.out _ (Ext.refl _)
    refine RnL.cons (fun g17 A_ W_ hs_ => ?_) ?_
    · have q150_ := hs_.val 1 rfl rfl rfl
      refine Rn.val fun K_ hK_ => ?_
      go_simp
      exact hK_.out _ (Ext.refl _)
    refine RnL.cons (fun g17 A_ W_ hs_ => ?_) ?_
    · have q10_ := (hs_.old 10 (by kernel_rfl) : A_.tmps[10]?.getD undef = .pointer (some ⟨w6.heap.size, 0, none⟩))
      refine Rn.val fun K_ hK_ => ?_
      go_simp
      exact hK_.out _ (Ext.refl _)
    refine RnL.cons (fun g17 A_ W_ hs_ => ?_) ?_
    · have q152_ := hs_.val 3 rfl rfl rfl
      have cB4_0 := ((HB4_17.out.drew.ext hs_.1)).cell 0 rfl
      refine Rn.val fun K_ hK_ => ?_
      go_simp
      exact hK_.out _ (Ext.refl _)
    refine RnL.cons (fun g17 A_ W_ hs_ => ?_) ?_
    · have q10_ := (hs_.old 10 (by kernel_rfl) : A_.tmps[10]?.getD undef = .pointer (some ⟨w6.heap.size, 0, none⟩))
      refine Rn.val fun K_ hK_ => ?_
      go_simp
      exact hK_.out _ (Ext.refl _)
    refine RnL.cons (fun g17 A_ W_ hs_ => ?_) ?_
    · have q154_ := hs_.val 5 rfl rfl rfl
      have cB4_1 := ((HB4_17.out.drew.ext hs_.1)).cell 1 rfl
      refine Rn.val fun K_ hK_ => ?_
      go_simp
      exact hK_.out _ (Ext.refl _)
    refine RnL.cons (fun g17 A_ W_ hs_ => ?_) ?_
    · have q153_ := hs_.val 4 rfl rfl rfl
      have q155_ := hs_.val 6 rfl rfl rfl
      refine Rn.mem fun K_ hK_ => ?_
      go_simp
      exact hK_.out
    refine RnL.cons (fun g17 A_ W_ hs_ => ?_) ?_
    · have q156_ := (hs_.mem 7 rfl rfl rfl).1
      refine Rn.val fun K_ hK_ => ?_
      go_simp
      refine (right15_b [qs X, qs Y] 2 (g17 7) true _ (HG.out.ext (HX17.out.drew.trans hs_.1)) rfl (by decide) (sizes2 (HXB.out.len (by decide)) (HYB.out.len (by decide))) (show [qs X, qs Y].all rq = true by rw [List.all_cons, List.all_cons, rq_qs HXB.out, rq_qs HYB.out]; rfl) ((hs_.mem 7 rfl rfl rfl).2.2 rfl)).mono ?_; rintro e W9_ ⟨rfl, e9_⟩; exact hK_.out _ e9_
    refine RnL.cons (fun g17 A_ W_ hs_ => ?_) ?_
    · have q151_ := hs_.val 2 rfl rfl rfl
      have q157_ := hs_.val 8 rfl rfl rfl
      refine Rn.val fun K_ hK_ => ?_
      go_simp
      exact hK_.out _ (Ext.refl _)
    refine RnL.cons (fun g17 A_ W_ hs_ => ?_) ?_
    · have q158_ := hs_.val 9 rfl rfl rfl
      refine Rn.val fun K_ hK_ => ?_
      go_simp
      exact hK_.out _ (Ext.refl _)
    refine RnL.cons (fun g17 A_ W_ hs_ => ?_) ?_
    · have q10_ := (hs_.old 10 (by kernel_rfl) : A_.tmps[10]?.getD undef = .pointer (some ⟨w6.heap.size, 0, none⟩))
      refine Rn.val fun K_ hK_ => ?_
      go_simp
      exact hK_.out _ (Ext.refl _)
    refine RnL.cons (fun g17 A_ W_ hs_ => ?_) ?_
    · have q160_ := hs_.val 11 rfl rfl rfl
      have cB4_2 := ((HB4_17.out.drew.ext hs_.1)).cell 2 rfl
      refine Rn.val fun K_ hK_ => ?_
      go_simp
      exact hK_.out _ (Ext.refl _)
    refine RnL.cons (fun g17 A_ W_ hs_ => ?_) ?_
    · have q161_ := hs_.val 12 rfl rfl rfl
      refine Rn.val fun K_ hK_ => ?_
      go_simp
      exact hK_.out _ (Ext.refl _)
    refine RnL.cons (fun g17 A_ W_ hs_ => ?_) ?_
    · have q159_ := hs_.val 10 rfl rfl rfl
      have q162_ := hs_.val 13 rfl rfl rfl
      refine Rn.val fun K_ hK_ => ?_
      go_simp
      exact hK_.out _ (Ext.refl _)
    refine RnL.cons (fun g17 A_ W_ hs_ => ?_) ?_
    · have q163_ := hs_.val 14 rfl rfl rfl
      refine Rn.val fun K_ hK_ => ?_
      go_simp
      exact hK_.out _ (Ext.refl _)
    refine RnL.cons (fun g17 A_ W_ hs_ => ?_) ?_
    · have q10_ := (hs_.old 10 (by kernel_rfl) : A_.tmps[10]?.getD undef = .pointer (some ⟨w6.heap.size, 0, none⟩))
      have cB4_0 := ((HB4_17.out.drew.ext hs_.1)).cell 0 rfl
      have cB4_1 := ((HB4_17.out.drew.ext hs_.1)).cell 1 rfl
      have cB4_2 := ((HB4_17.out.drew.ext hs_.1)).cell 2 rfl
      refine Rn.val fun K_ hK_ => ?_
      go_simp
      exact hK_.out _ (Ext.refl _)
    refine RnL.cons (fun g17 A_ W_ hs_ => ?_) ?_
    · have q4_ := (hs_.old 4 (by kernel_rfl) : A_.tmps[4]?.getD undef = .pointer (some ⟨w.heap.size + 1, 0, none⟩))
      refine Rn.val fun K_ hK_ => ?_
      go_simp
      exact hK_.out _ (Ext.refl _)
    refine RnL.cons (fun g17 A_ W_ hs_ => ?_) ?_
    · have q166_ := hs_.val 17 rfl rfl rfl
      have cB1_0 := ((HB1_17.out.drew.ext hs_.1)).cell 0 rfl
      have cB1_1 := ((HB1_17.out.drew.ext hs_.1)).cell 1 rfl
      refine Rn.val fun K_ hK_ => ?_
      go_simp
      exact hK_.out _ (Ext.refl _)
    refine RnL.cons (fun g17 A_ W_ hs_ => ?_) ?_
    · have q165_ := hs_.val 16 rfl rfl rfl
      have q167_ := hs_.val 18 rfl rfl rfl
      refine Rn.val fun K_ hK_ => ?_
      go_simp
      refine (lfall_m X Y a p _ (HG.out.ext (HX17.out.drew.trans hs_.1)) HXB.out HYB.out HA4.out HFA.out).mono ?_; rintro e W9_ ⟨rfl, e9_⟩; exact hK_.out _ e9_
    refine RnL.cons (fun g17 A_ W_ hs_ => ?_) ?_
    · have q4_ := (hs_.old 4 (by kernel_rfl) : A_.tmps[4]?.getD undef = .pointer (some ⟨w.heap.size + 1, 0, none⟩))
      refine Rn.val fun K_ hK_ => ?_
      go_simp
      exact hK_.out _ (Ext.refl _)
    refine RnL.cons (fun g17 A_ W_ hs_ => ?_) ?_
    · have q169_ := hs_.val 20 rfl rfl rfl
      have cB1_2 := ((HB1_17.out.drew.ext hs_.1)).cell 2 rfl
      refine Rn.val fun K_ hK_ => ?_
      go_simp
      exact hK_.out _ (Ext.refl _)
    refine RnL.cons (fun g17 A_ W_ hs_ => ?_) ?_
    · have q168_ := hs_.val 19 rfl rfl rfl
      have q170_ := hs_.val 21 rfl rfl rfl
      refine Rn.val fun K_ hK_ => ?_
      go_simp
      exact hK_.out _ (Ext.refl _)
    refine RnL.cons (fun g17 A_ W_ hs_ => ?_) ?_
    · have q164_ := hs_.val 15 rfl rfl rfl
      have q171_ := hs_.val 22 rfl rfl rfl
      refine Rn.val fun K_ hK_ => ?_
      go_simp
      exact hK_.out _ (Ext.refl _)
    refine RnL.cons (fun g17 A_ W_ hs_ => ?_) ?_
    · have q172_ := hs_.val 23 rfl rfl rfl
      refine Rn.val fun K_ hK_ => ?_
      go_simp
      exact hK_.out _ (Ext.refl _)
    refine RnL.cons (fun g17 A_ W_ hs_ => ?_) ?_
    · have q10_ := (hs_.old 10 (by kernel_rfl) : A_.tmps[10]?.getD undef = .pointer (some ⟨w6.heap.size, 0, none⟩))
      have cB4_0 := ((HB4_17.out.drew.ext hs_.1)).cell 0 rfl
      have cB4_1 := ((HB4_17.out.drew.ext hs_.1)).cell 1 rfl
      have cB4_2 := ((HB4_17.out.drew.ext hs_.1)).cell 2 rfl
      refine Rn.val fun K_ hK_ => ?_
      go_simp
      exact hK_.out _ (Ext.refl _)
    refine RnL.cons (fun g17 A_ W_ hs_ => ?_) ?_
    · have q5_ := (hs_.old 5 (by kernel_rfl) : A_.tmps[5]?.getD undef = .pointer (some ⟨w.heap.size + 1 + 1, 0, none⟩))
      refine Rn.val fun K_ hK_ => ?_
      go_simp
      exact hK_.out _ (Ext.refl _)
    refine RnL.cons (fun g17 A_ W_ hs_ => ?_) ?_
    · have q175_ := hs_.val 26 rfl rfl rfl
      have cB2_0 := ((HB2_17.out.drew.ext hs_.1)).cell 0 rfl
      have cB2_1 := ((HB2_17.out.drew.ext hs_.1)).cell 1 rfl
      refine Rn.val fun K_ hK_ => ?_
      go_simp
      exact hK_.out _ (Ext.refl _)
    refine RnL.cons (fun g17 A_ W_ hs_ => ?_) ?_
    · have q174_ := hs_.val 25 rfl rfl rfl
      have q176_ := hs_.val 27 rfl rfl rfl
      refine Rn.val fun K_ hK_ => ?_
      go_simp
      refine (lfall_m X Y b q _ (HG.out.ext (HX17.out.drew.trans hs_.1)) HXB.out HYB.out HB4.out HFB.out).mono ?_; rintro e W9_ ⟨rfl, e9_⟩; exact hK_.out _ e9_
    refine RnL.cons (fun g17 A_ W_ hs_ => ?_) ?_
    · have q5_ := (hs_.old 5 (by kernel_rfl) : A_.tmps[5]?.getD undef = .pointer (some ⟨w.heap.size + 1 + 1, 0, none⟩))
      refine Rn.val fun K_ hK_ => ?_
      go_simp
      exact hK_.out _ (Ext.refl _)
    refine RnL.cons (fun g17 A_ W_ hs_ => ?_) ?_
    · have q178_ := hs_.val 29 rfl rfl rfl
      have cB2_2 := ((HB2_17.out.drew.ext hs_.1)).cell 2 rfl
      refine Rn.val fun K_ hK_ => ?_
      go_simp
      exact hK_.out _ (Ext.refl _)
    refine RnL.cons (fun g17 A_ W_ hs_ => ?_) ?_
    · have q177_ := hs_.val 28 rfl rfl rfl
      have q179_ := hs_.val 30 rfl rfl rfl
      refine Rn.val fun K_ hK_ => ?_
      go_simp
      exact hK_.out _ (Ext.refl _)
    refine RnL.cons (fun g17 A_ W_ hs_ => ?_) ?_
    · have q173_ := hs_.val 24 rfl rfl rfl
      have q180_ := hs_.val 31 rfl rfl rfl
      refine Rn.val fun K_ hK_ => ?_
      go_simp
      exact hK_.out _ (Ext.refl _)
    refine RnL.cons (fun g17 A_ W_ hs_ => ?_) ?_
    · have q181_ := hs_.val 32 rfl rfl rfl
      refine Rn.val fun K_ hK_ => ?_
      go_simp
      exact hK_.out _ (Ext.refl _)
    exact RnL.nil
  simp only [fs, Kd.value, puts, Act.put, List.setIfInBounds_toArray, List.set_cons_zero, List.set_cons_succ, Nat.reduceAdd]
  have HX18 : Hid (Ext w w18) := Lib.hid (HX17.out.drew.trans hx_)
  have HB10_18 : Hid (Blk w18 (g17 7) #[.string (qs X), .string (qs Y)] 22) := Lib.hid (hm_ 7 _ _ _ _ rfl).2; have HGEB10 : Hid (w.heap.size ≤ g17 7) := Lib.hid (Nat.le_trans HX17.out.size (hm_ 7 _ _ _ _ rfl).1)
  clear hx_ hm_ hne_
  generalize g17 7 = i10 at *
  clear g17
  go_wp2
  go_ret
  exact ⟨rfl, HX18.out⟩

set_option maxRecDepth 100000 in
set_option maxHeartbeats 16000000 in
theorem falls15_RR (n : V3) (a : P2) (b : P2) (p q : Rat) (en ea eb : Int) (w : World) (g : Gd w) (hsz : [qs n.x, qs n.y, qs n.z, qs a.x, qs a.y, qs p, qs b.x, qs b.y, qs q].all sz24 = true) (hen : NErr ⟨qs n.x, qs n.y, qs n.z⟩ 0) (hea : HErr ⟨qs a.x, qs a.y⟩ 0) (h0 : n.z ≠ 0) (heb : HErr ⟨qs b.x, qs b.y⟩ 0) (hd : a.x * b.y - a.y * b.x ≠ 0) : Calls Tryz.prog 7 #[.agg #[.string (qs n.x), .string (qs n.y), .string (qs n.z)], .agg #[.string (qs a.x), .string (qs a.y), .string (qs p)], .agg #[.string (qs b.x), .string (qs b.y), .string (qs q)]] w (Ret w (.bool true)) := by
  have HEN := Lib.hid hen
  have HEA := Lib.hid hea
  have HEB := Lib.hid heb
  have HG := Lib.hid g
  clear hen hea heb g
  have HSZ := Lib.hid hsz
  simp only [List.all_cons, List.all_nil, Bool.and_true, Bool.and_eq_true, sz24_true] at hsz
  obtain ⟨s0, s1, s2, s3, s4, s5, s6, s7, s8⟩ := hsz
  have HN4 : Hid (VB 24 n) := Lib.hid ⟨qb_of_size s0, qb_of_size s1, qb_of_size s2⟩
  have HA4 : Hid (PB 24 a) := Lib.hid ⟨qb_of_size s3, qb_of_size s4⟩
  have HP : Hid (QB 24 p) := Lib.hid (qb_of_size s5); have HB4 : Hid (PB 24 b) := Lib.hid ⟨qb_of_size s6, qb_of_size s7⟩; have HQ : Hid (QB 24 q) := Lib.hid (qb_of_size s8)
  clear s0 s1 s2 s3 s4 s5 s6 s7 s8
  have h0_t := qs_not0 h0
  have H0 := Lib.hid h0; clear h0
  have hc_d : (qcmp (a.x * b.y) (a.y * b.x) == 0) = false := beq_eq_false_iff_ne.2 (fun e => hd (by have := qcmp_eq0 e; grind))
  have HD := Lib.hid hd
  obtain ⟨X, eX⟩ : ∃ X, (p * b.y - a.y * q) / (a.x * b.y - a.y * b.x) = X := ⟨_, rfl⟩
  obtain ⟨Y, eY⟩ : ∃ Y, (a.x * q - p * b.x) / (a.x * b.y - a.y * b.x) = Y := ⟨_, rfl⟩
  have HFA := Lib.hid (show X * a.x + Y * a.y = p by rw [← eX, ← eY]; exact fall_a hd)
  have HFB := Lib.hid (show X * b.x + Y * b.y = q by rw [← eX, ← eY]; exact fall_b hd)
  have HXB : Hid (QB 200 X) := Lib.hid (eX ▸ ((((HP.out.mul HB4.out.y).sub (HA4.out.y.mul HQ.out)).div ((HA4.out.x.mul HB4.out.y).sub (HA4.out.y.mul HB4.out.x)) (by decide)).mono (by decide)))
  have HYB : Hid (QB 200 Y) := Lib.hid (eY ▸ ((((HA4.out.x.mul HQ.out).sub (HP.out.mul HB4.out.x)).div ((HA4.out.x.mul HB4.out.y).sub (HA4.out.y.mul HB4.out.x)) (by decide)).mono (by decide)))
  have HEX := Lib.hid eX; have HEY := Lib.hid eY; clear hd eX eY
  go_enter Tryz.func7, Tryz.ntmps7
  go_wp2_with fail
  refine (known15_c _ (HG.out.ext ((((Ext.refl w).alloc _).alloc _).alloc _))).mono ?_; rintro e w1 ⟨rfl, e1⟩
  have HX1 : Hid (Ext w w1) := Lib.hid (((((Ext.refl w).alloc _).alloc _).alloc _).trans e1)
  have HB0_1 : Hid (Blk w1 (w.heap.size) #[.string (qs n.x), .string (qs n.y), .string (qs n.z)] 37) := Lib.hid (Blk.ext (((Blk.new' (w := _) (cs := #[.string (qs n.x), .string (qs n.y), .string (qs n.z)]) (t := 37) (by first | rfl | (simp only [World.size_alloc]; done) | (simp only [World.size_alloc]; omega) | simp)).alloc _).alloc _) e1)
  have HB1_1 : Hid (Blk w1 (w.heap.size + 1) #[.string (qs a.x), .string (qs a.y), .string (qs p)] 55) := Lib.hid (Blk.ext ((Blk.new' (w := _) (cs := #[.string (qs a.x), .string (qs a.y), .string (qs p)]) (t := 55) (by first | rfl | (simp only [World.size_alloc]; done) | (simp only [World.size_alloc]; omega) | simp)).alloc _) e1)
  have HB2_1 : Hid (Blk w1 (w.heap.size + 1 + 1) #[.string (qs b.x), .string (qs b.y), .string (qs q)] 55) := Lib.hid (Blk.ext (Blk.new' (w := _) (cs := #[.string (qs b.x), .string (qs b.y), .string (qs q)]) (t := 55) (by first | rfl | (simp only [World.size_alloc]; done) | (simp only [World.size_alloc]; omega) | simp)) e1)
  have HGEB0 : Hid (w.heap.size ≤ w.heap.size) := Lib.hid (by first | omega | (simp only []; omega) | (simp; omega))
  have HGEB1 : Hid (w.heap.size ≤ w.heap.size + 1) := Lib.hid (by first | omega | (simp only []; omega) | (simp; omega))
  have HGEB2 : Hid (w.heap.size ≤ w.heap.size + 1 + 1) := Lib.hid (by first | omega | (simp only []; omega) | (simp; omega))
  clear e1
  have c0_0 := HB0_1.out.cell 0 rfl
  have c0_1 := HB0_1.out.cell 1 rfl
  have c0_2 := HB0_1.out.cell 2 rfl
  have c1_0 := HB1_1.out.cell 0 rfl
  have c1_1 := HB1_1.out.cell 1 rfl
  have c1_2 := HB1_1.out.cell 2 rfl
  have c2_0 := HB2_1.out.cell 0 rfl
  have c2_1 := HB2_1.out.cell 1 rfl
  have c2_2 := HB2_1.out.cell 2 rfl
  go_wp2_with fail
  refine (short15_b [qs n.x, qs n.y, qs n.z, qs a.x, qs a.y, qs p, qs b.x, qs b.y, qs q] 9 (w1.heap.size) true _ rfl (by decide) HSZ.out (Blk.new' (w := _) (cs := #[.string (qs n.x), .string (qs n.y), .string (qs n.z), .string (qs a.x), .string (qs a.y), .string (qs p), .string (qs b.x), .string (qs b.y), .string (qs q)]) (t := 22) (by first | rfl | (simp only [World.size_alloc]; done) | (simp only [World.size_alloc]; omega) | simp))).mono ?_; rintro e w2 ⟨rfl, e2⟩
  have HX2 : Hid (Ext w w2) := Lib.hid ((HX1.out.alloc _).trans e2)
  have HB0_2 : Hid (Blk w2 (w.heap.size) #[.string (qs n.x), .string (qs n.y), .string (qs n.z)] 37) := Lib.hid (Blk.ext (HB0_1.out.alloc _) e2)
  have HB1_2 : Hid (Blk w2 (w.heap.size + 1) #[.string (qs a.x), .string (qs a.y), .string (qs p)] 55) := Lib.hid (Blk.ext (HB1_1.out.alloc _) e2)
  have HB2_2 : Hid (Blk w2 (w.heap.size + 1 + 1) #[.string (qs b.x), .string (qs b.y), .string (qs q)] 55) := Lib.hid (Blk.ext (HB2_1.out.alloc _) e2)
  have HB3_2 : Hid (Blk w2 (w1.heap.size) #[.string (qs n.x), .string (qs n.y), .string (qs n.z), .string (qs a.x), .string (qs a.y), .string (qs p), .string (qs b.x), .string (qs b.y), .string (qs q)] 22) := Lib.hid (Blk.ext (Blk.new' (w := _) (cs := #[.string (qs n.x), .string (qs n.y), .string (qs n.z), .string (qs a.x), .string (qs a.y), .string (qs p), .string (qs b.x), .string (qs b.y), .string (qs q)]) (t := 22) (by first | rfl | (simp only [World.size_alloc]; done) | (simp only [World.size_alloc]; omega) | simp)) e2)
  have HGEB3 : Hid (w.heap.size ≤ w1.heap.size) := Lib.hid (by have := HX1.out.size; first | omega | (simp only []; omega) | (simp; omega))
  clear e2 c0_0 c0_1 c0_2 c1_0 c1_1 c1_2 c2_0 c2_1 c2_2
  have c0_0 := HB0_2.out.cell 0 rfl
  have c0_1 := HB0_2.out.cell 1 rfl
  have c0_2 := HB0_2.out.cell 2 rfl
  have c1_0 := HB1_2.out.cell 0 rfl
  have c1_1 := HB1_2.out.cell 1 rfl
  go_wp2_with fail
  refine (aapp_ok n a _ (HG.out.ext HX2.out) HN4.out HA4.out HEN.out HEA.out H0.out).mono ?_; rintro e w3 ⟨rfl, e3⟩
  have HX3 : Hid (Ext w w3) := Lib.hid (HX2.out.trans e3)
  have HB0_3 := Lib.hid (Blk.ext HB0_2.out e3)
  have HB1_3 := Lib.hid (Blk.ext HB1_2.out e3)
  have HB2_3 := Lib.hid (Blk.ext HB2_2.out e3)
  clear e3 c0_0 c0_1 c0_2 c1_0 c1_1
  have c0_0 := HB0_3.out.cell 0 rfl
  have c0_1 := HB0_3.out.cell 1 rfl
  have c0_2 := HB0_3.out.cell 2 rfl
  go_wp2_with fail
  refine (lnorm_l (t := ⟨qs n.x, qs n.y, qs n.z⟩) _ (HG.out.ext HX3.out) HEN.out).mono ?_; rintro e w4 ⟨rfl, e4⟩
  have HX4 : Hid (Ext w w4) := Lib.hid (HX3.out.trans e4)
  have HB0_4 := Lib.hid (Blk.ext HB0_3.out e4)
  have HB1_4 := Lib.hid (Blk.ext HB1_3.out e4)
  have HB2_4 := Lib.hid (Blk.ext HB2_3.out e4)
  clear e4 c0_0 c0_1 c0_2
  have c1_0 := HB1_4.out.cell 0 rfl
  have c1_1 := HB1_4.out.cell 1 rfl
  go_wp2_with fail
  refine (ldir_l (t := ⟨qs a.x, qs a.y⟩) _ (HG.out.ext HX4.out) HEA.out).mono ?_; rintro e w5 ⟨rfl, e5⟩
  have HX5 : Hid (Ext w w5) := Lib.hid (HX4.out.trans e5)
  have HB0_5 := Lib.hid (Blk.ext HB0_4.out e5)
  have HB1_5 := Lib.hid (Blk.ext HB1_4.out e5)
  have HB2_5 := Lib.hid (Blk.ext HB2_4.out e5)
  clear e5 c1_0 c1_1
  have c0_2 := HB0_5.out.cell 2 rfl
  have c0_0 := HB0_5.out.cell 0 rfl
  have c0_1 := HB0_5.out.cell 1 rfl
  have c1_0 := HB1_5.out.cell 0 rfl
  have c1_1 := HB1_5.out.cell 1 rfl
  go_wp2_with fail
  refine (lfall_c n a _ (HG.out.ext HX5.out) HN4.out HA4.out H0.out (by decide) (by decide) (by decide)).mono ?_; rintro e w6 ⟨rfl, e6⟩
  have HX6 : Hid (Ext w w6) := Lib.hid (HX5.out.trans e6)
  have HB1_6 := Lib.hid (Blk.ext HB1_5.out e6)
  have HB2_6 := Lib.hid (Blk.ext HB2_5.out e6)
  clear e6 c0_2 c0_0 c0_1 c1_0 c1_1
  have c1_0 := HB1_6.out.cell 0 rfl
  have c1_1 := HB1_6.out.cell 1 rfl
  have c1_2 := HB1_6.out.cell 2 rfl
  have c2_0 := HB2_6.out.cell 0 rfl
  have c2_1 := HB2_6.out.cell 1 rfl
  have c2_2 := HB2_6.out.cell 2 rfl
  go_wp2_with fail
  refine ((HEX.out ▸ HEY.out ▸ atrue_ok a b p q _ (HG.out.ext HX6.out) HA4.out HB4.out HP.out HQ.out HEA.out HEB.out HD.out)).mono ?_; rintro e w7 ⟨rfl, e7⟩
  have HX7 : Hid (Ext w w7) := Lib.hid (HX6.out.trans e7)
  have HB1_7 := Lib.hid (Blk.ext HB1_6.out e7)
  have HB2_7 := Lib.hid (Blk.ext HB2_6.out e7)
  clear e7 c1_0 c1_1 c1_2 c2_0 c2_1 c2_2
  go_upto_region 15 with fail
  refine wp_name (fun W => Ext w W ∧ Blk W (w.heap.size + 1) #[.string (qs a.x), .string (qs a.y), .string (qs p)] 55 ∧ Blk W (w.heap.size + 1 + 1) #[.string (qs b.x), .string (qs b.y), .string (qs q)] 55 ∧ Blk W (w7.heap.size) #[.string (qs X), .string (qs Y), .string ⟨#[49]⟩] 37) ⟨(HX7.out.alloc _), (HB1_7.out.alloc _), (HB2_7.out.alloc _), (Blk.new' (w := _) (cs := #[.string (qs X), .string (qs Y), .string ⟨#[49]⟩]) (t := 37) (by first | rfl | (simp only [World.size_alloc]; done) | (simp only [World.size_alloc]; omega) | simp))⟩ ?_
  rintro w8 ⟨e8, bB1_8, bB2_8, bB4_8⟩
  have HX8 := Lib.hid e8; have HB1_8 := Lib.hid bB1_8; have HB2_8 := Lib.hid bB2_8; have HB4_8 := Lib.hid bB4_8
  have HGEB4 : Hid (w.heap.size ≤ w7.heap.size) := Lib.hid (by have := HX7.out.size; first | omega | (simp only []; omega) | (simp; omega))
  clear e8 bB1_8 bB2_8 bB4_8
  have c1_0 := HB1_8.out.cell 0 rfl
  have c1_1 := HB1_8.out.cell 1 rfl
  have c1_2 := HB1_8.out.cell 2 rfl
  have c2_0 := HB2_8.out.cell 0 rfl
  have c2_1 := HB2_8.out.cell 1 rfl
  have c2_2 := HB2_8.out.cell 2 rfl
  go_wp2_with fail
  refine wp_loop_rounds 3 ?_
  rw [rounds_succ]
  clear c1_0 c1_1 c1_2 c2_0 c2_1 c2_2
  go_upto_region 17 with fail
  refine wp_name (fun W => Ext w W ∧ Blk W (w.heap.size + 1) #[.string (qs a.x), .string (qs a.y), .string (qs p)] 55 ∧ Blk W (w.heap.size + 1 + 1) #[.string (qs b.x), .string (qs b.y), .string (qs q)] 55 ∧ Blk W (w7.heap.size) #[.string (qs X), .string (qs Y), .string ⟨#[49]⟩] 37 ∧ Blk W (w8.heap.size) #[.string (qs a.x), .string (qs a.y), .string (qs p), .string (qs b.x), .string (qs b.y), .string (qs q)] 55) ⟨(HX8.out.alloc _), (HB1_8.out.alloc _), (HB2_8.out.alloc _), (HB4_8.out.alloc _), (Blk.new' (w := _) (cs := #[.string (qs a.x), .string (qs a.y), .string (qs p), .string (qs b.x), .string (qs b.y), .string (qs q)]) (t := 55) (by first | rfl | (simp only [World.size_alloc]; done) | (simp only [World.size_alloc]; omega) | simp))⟩ ?_
  rintro w9 ⟨e9, bB1_9, bB2_9, bB4_9, bB5_9⟩
  have HX9 := Lib.hid e9; have HB1_9 := Lib.hid bB1_9; have HB2_9 := Lib.hid bB2_9; have HB4_9 := Lib.hid bB4_9; have HB5_9 := Lib.hid bB5_9
  have HGEB5 : Hid (w.heap.size ≤ w8.heap.size) := Lib.hid (by have := HX8.out.size; first | omega | (simp only []; omega) | (simp; omega))
  clear e9 bB1_9 bB2_9 bB4_9 bB5_9
  have c5_0 := HB5_9.out.cell 0 rfl
  have c5_1 := HB5_9.out.cell 1 rfl
  have c5_2 := HB5_9.out.cell 2 rfl
  go_upto_region 19 with fail
  refine wp_name (fun W => Ext w W ∧ Blk W (w.heap.size + 1) #[.string (qs a.x), .string (qs a.y), .string (qs p)] 55 ∧ Blk W (w.heap.size + 1 + 1) #[.string (qs b.x), .string (qs b.y), .string (qs q)] 55 ∧ Blk W (w7.heap.size) #[.string (qs X), .string (qs Y), .string ⟨#[49]⟩] 37 ∧ Blk W (w8.heap.size) #[.string (qs a.x), .string (qs a.y), .string (qs p), .string (qs b.x), .string (qs b.y), .string (qs q)] 55 ∧ Blk W (w9.heap.size) #[.string (qs a.x), .string (qs a.y), .string (qs p)] 55) ⟨(HX9.out.alloc _), (HB1_9.out.alloc _), (HB2_9.out.alloc _), (HB4_9.out.alloc _), (HB5_9.out.alloc _), (Blk.new' (w := _) (cs := #[.string (qs a.x), .string (qs a.y), .string (qs p)]) (t := 55) (by first | rfl | (simp only [World.size_alloc]; done) | (simp only [World.size_alloc]; omega) | simp))⟩ ?_
  rintro w10 ⟨e10, bB1_10, bB2_10, bB4_10, bB5_10, bB6_10⟩
  have HX10 := Lib.hid e10; have HB1_10 := Lib.hid bB1_10; have HB2_10 := Lib.hid bB2_10; have HB4_10 := Lib.hid bB4_10; have HB5_10 := Lib.hid bB5_10; have HB6_10 := Lib.hid bB6_10
  have HGEB6 : Hid (w.heap.size ≤ w9.heap.size) := Lib.hid (by have := HX9.out.size; first | omega | (simp only []; omega) | (simp; omega))
  clear e10 bB1_10 bB2_10 bB4_10 bB5_10 bB6_10 c5_0 c5_1 c5_2
  have c6_0 := HB6_10.out.cell 0 rfl
  have c6_1 := HB6_10.out.cell 1 rfl
  go_wp2_with fail
  refine (ldir_l (t := ⟨qs a.x, qs a.y⟩) _ (HG.out.ext HX10.out) HEA.out).mono ?_; rintro e w11 ⟨rfl, e11⟩
  have HX11 : Hid (Ext w w11) := Lib.hid (HX10.out.trans e11)
  have HB1_11 := Lib.hid (Blk.ext HB1_10.out e11)
  have HB2_11 := Lib.hid (Blk.ext HB2_10.out e11)
  have HB4_11 := Lib.hid (Blk.ext HB4_10.out e11)
  have HB5_11 := Lib.hid (Blk.ext HB5_10.out e11)
  have HB6_11 := Lib.hid (Blk.ext HB6_10.out e11)
  clear e11 c6_0 c6_1
  have c6_2 := HB6_11.out.cell 2 rfl
  go_wp2_with fail
  refine (right15_b [qs p] 1 (w11.heap.size) true _ (HG.out.ext (HX11.out.alloc _)) rfl (by decide) (sizes1' ((HP.out.mono (by decide) : QB 200 p).len (by decide))) (all1' (rq_qs (HP.out.mono (by decide)))) (Blk.new' (w := _) (cs := #[.string (qs p)]) (t := 22) (by first | rfl | (simp only [World.size_alloc]; done) | (simp only [World.size_alloc]; omega) | simp))).mono ?_; rintro e w12 ⟨rfl, e12⟩
  have HX12 : Hid (Ext w w12) := Lib.hid ((HX11.out.alloc _).trans e12)
  have HB1_12 : Hid (Blk w12 (w.heap.size + 1) #[.string (qs a.x), .string (qs a.y), .string (qs p)] 55) := Lib.hid (Blk.ext (HB1_11.out.alloc _) e12)
  have HB2_12 : Hid (Blk w12 (w.heap.size + 1 + 1) #[.string (qs b.x), .string (qs b.y), .string (qs q)] 55) := Lib.hid (Blk.ext (HB2_11.out.alloc _) e12)
  have HB4_12 : Hid (Blk w12 (w7.heap.size) #[.string (qs X), .string (qs Y), .string ⟨#[49]⟩] 37) := Lib.hid (Blk.ext (HB4_11.out.alloc _) e12)
  have HB5_12 : Hid (Blk w12 (w8.heap.size) #[.string (qs a.x), .string (qs a.y), .string (qs p), .string (qs b.x), .string (qs b.y), .string (qs q)] 55) := Lib.hid (Blk.ext (HB5_11.out.alloc _) e12)
  have HB7_12 : Hid (Blk w12 (w11.heap.size) #[.string (qs p)] 22) := Lib.hid (Blk.ext (Blk.new' (w := _) (cs := #[.string (qs p)]) (t := 22) (by first | rfl | (simp only [World.size_alloc]; done) | (simp only [World.size_alloc]; omega) | simp)) e12)
  have HGEB7 : Hid (w.heap.size ≤ w11.heap.size) := Lib.hid (by have := HX11.out.size; first | omega | (simp only []; omega) | (simp; omega))
  clear e12 c6_2
  go_wp2_with fail
  rw [rounds_succ]
  have c5_3 := HB5_12.out.cell 3 rfl
  have c5_4 := HB5_12.out.cell 4 rfl
  have c5_5 := HB5_12.out.cell 5 rfl
  go_upto_region 19 with fail
  refine wp_name (fun W => Ext w W ∧ Blk W (w.heap.size + 1) #[.string (qs a.x), .string (qs a.y), .string (qs p)] 55 ∧ Blk W (w.heap.size + 1 + 1) #[.string (qs b.x), .string (qs b.y), .string (qs q)] 55 ∧ Blk W (w7.heap.size) #[.string (qs X), .string (qs Y), .string ⟨#[49]⟩] 37 ∧ Blk W (w12.heap.size) #[.string (qs b.x), .string (qs b.y), .string (qs q)] 55) ⟨(HX12.out.alloc _), (HB1_12.out.alloc _), (HB2_12.out.alloc _), (HB4_12.out.alloc _), (Blk.new' (w := _) (cs := #[.string (qs b.x), .string (qs b.y), .string (qs q)]) (t := 55) (by first | rfl | (simp only [World.size_alloc]; done) | (simp only [World.size_alloc]; omega) | simp))⟩ ?_
  rintro w13 ⟨e13, bB1_13, bB2_13, bB4_13, bB8_13⟩
  have HX13 := Lib.hid e13; have HB1_13 := Lib.hid bB1_13; have HB2_13 := Lib.hid bB2_13; have HB4_13 := Lib.hid bB4_13; have HB8_13 := Lib.hid bB8_13
  have HGEB8 : Hid (w.heap.size ≤ w12.heap.size) := Lib.hid (by have := HX12.out.size; first | omega | (simp only []; omega) | (simp; omega))
  clear e13 bB1_13 bB2_13 bB4_13 bB8_13 c5_3 c5_4 c5_5
  have c8_0 := HB8_13.out.cell 0 rfl
  have c8_1 := HB8_13.out.cell 1 rfl
  go_wp2_with fail
  refine (ldir_l (t := ⟨qs b.x, qs b.y⟩) _ (HG.out.ext HX13.out) HEB.out).mono ?_; rintro e w14 ⟨rfl, e14⟩
  have HX14 : Hid (Ext w w14) := Lib.hid (HX13.out.trans e14)
  have HB1_14 := Lib.hid (Blk.ext HB1_13.out e14)
  have HB2_14 := Lib.hid (Blk.ext HB2_13.out e14)
  have HB4_14 := Lib.hid (Blk.ext HB4_13.out e14)
  have HB8_14 := Lib.hid (Blk.ext HB8_13.out e14)
  clear e14 c8_0 c8_1
  have c8_2 := HB8_14.out.cell 2 rfl
  go_wp2_with fail
  refine (right15_b [qs q] 1 (w14.heap.size) true _ (HG.out.ext (HX14.out.alloc _)) rfl (by decide) (sizes1' ((HQ.out.mono (by decide) : QB 200 q).len (by decide))) (all1' (rq_qs (HQ.out.mono (by decide)))) (Blk.new' (w := _) (cs := #[.string (qs q)]) (t := 22) (by first | rfl | (simp only [World.size_alloc]; done) | (simp only [World.size_alloc]; omega) | simp))).mono ?_; rintro e w15 ⟨rfl, e15⟩
  have HX15 : Hid (Ext w w15) := Lib.hid ((HX14.out.alloc _).trans e15)
  have HB1_15 : Hid (Blk w15 (w.heap.size + 1) #[.string (qs a.x), .string (qs a.y), .string (qs p)] 55) := Lib.hid (Blk.ext (HB1_14.out.alloc _) e15)
  have HB2_15 : Hid (Blk w15 (w.heap.size + 1 + 1) #[.string (qs b.x), .string (qs b.y), .string (qs q)] 55) := Lib.hid (Blk.ext (HB2_14.out.alloc _) e15)
  have HB4_15 : Hid (Blk w15 (w7.heap.size) #[.string (qs X), .string (qs Y), .string ⟨#[49]⟩] 37) := Lib.hid (Blk.ext (HB4_14.out.alloc _) e15)
  have HB9_15 : Hid (Blk w15 (w14.heap.size) #[.string (qs q)] 22) := Lib.hid (Blk.ext (Blk.new' (w := _) (cs := #[.string (qs q)]) (t := 22) (by first | rfl | (simp only [World.size_alloc]; done) | (simp only [World.size_alloc]; omega) | simp)) e15)
  have HGEB9 : Hid (w.heap.size ≤ w14.heap.size) := Lib.hid (by have := HX14.out.size; first | omega | (simp only []; omega) | (simp; omega))
  clear e15 c8_2
  go_wp2_with fail
  rw [rounds_succ]
  go_wp2_with fail
  refine wp_name (fun W => Ext w W ∧ Blk W (w.heap.size + 1) #[.string (qs a.x), .string (qs a.y), .string (qs p)] 55 ∧ Blk W (w.heap.size + 1 + 1) #[.string (qs b.x), .string (qs b.y), .string (qs q)] 55 ∧ Blk W (w7.heap.size) #[.string (qs X), .string (qs Y), .string ⟨#[49]⟩] 37) ⟨HX15.out, HB1_15.out, HB2_15.out, HB4_15.out⟩ ?_
  rintro w16 ⟨e16, bB1_16, bB2_16, bB4_16⟩
  have HX16 := Lib.hid e16; have HB1_16 := Lib.hid bB1_16; have HB2_16 := Lib.hid bB2_16; have HB4_16 := Lib.hid bB4_16
  clear e16 bB1_16 bB2_16 bB4_16
  refine region_lin [.val (.int .i64 0), .val (.bool true), .val (.bool true), .val (.pointer (some ⟨w.heap.size + 1, 0, none⟩)), .val (.pointer (some ⟨w.heap.size + 1, 0, none⟩)), .val (.string (qs a.x)), .val (.pointer (some ⟨w.heap.size + 1 + 1, 0, none⟩)), .val (.pointer (some ⟨w.heap.size + 1 + 1, 1, none⟩)), .val (.string (qs b.y)), .val (.string (qs (a.x * b.y))), .val (.pointer (some ⟨w.heap.size + 1, 0, none⟩)), .val (.pointer (some ⟨w.heap.size + 1, 1, none⟩)), .val (.string (qs a.y)), .val (.pointer (some ⟨w.heap.size + 1 + 1, 0, none⟩)), .val (.pointer (some ⟨w.heap.size + 1 + 1, 0, none⟩)), .val (.string (qs b.x)), .val (.string (qs (a.y * b.x))), .val (.int .i64 (qcmp (a.x * b.y) (a.y * b.x))), .val (.bool false), .val (.bool false)] (by kernel_rfl) (by kernel_rfl) (by kernel_rfl) ?_ (fun g16 w17 hx_ hm_ hne_ => ?_)
  · skip
    refine RnL.cons (fun g16 A_ W_ hs_ => ?_) ?_
    · have q9_ := (hs_.old 9 (by kernel_rfl) : A_.tmps[9]?.getD undef = .int .i64 0)
      refine Rn.val fun K_ hK_ => ?_
      go_simp
      exact hK_.out _ (Ext.refl _)
    refine RnL.cons (fun g16 A_ W_ hs_ => ?_) ?_
    · have q119_ := hs_.val 0 rfl rfl rfl
      refine Rn.val fun K_ hK_ => ?_
      go_simp
      exact hK_.out _ (Ext.refl _)
    refine RnL.cons (fun g16 A_ W_ hs_ => ?_) ?_
    · have q120_ := hs_.val 1 rfl rfl rfl
      refine Rn.val fun K_ hK_ => ?_
      go_simp
      exact hK_.out _ (Ext.refl _)
    refine RnL.cons (fun g16 A_ W_ hs_ => ?_) ?_
    · have q4_ := (hs_.old 4 (by kernel_rfl) : A_.tmps[4]?.getD undef = .pointer (some ⟨w.heap.size + 1, 0, none⟩))
      refine Rn.val fun K_ hK_ => ?_
      go_simp
      exact hK_.out _ (Ext.refl _)
    refine RnL.cons (fun g16 A_ W_ hs_ => ?_) ?_
    · have q122_ := hs_.val 3 rfl rfl rfl
      refine Rn.val fun K_ hK_ => ?_
      go_simp
      exact hK_.out _ (Ext.refl _)
    refine RnL.cons (fun g16 A_ W_ hs_ => ?_) ?_
    · have q123_ := hs_.val 4 rfl rfl rfl
      have cB1_0 := ((HB1_16.out.drew.ext hs_.1)).cell 0 rfl
      refine Rn.val fun K_ hK_ => ?_
      go_simp
      exact hK_.out _ (Ext.refl _)
    refine RnL.cons (fun g16 A_ W_ hs_ => ?_) ?_
    · have q5_ := (hs_.old 5 (by kernel_rfl) : A_.tmps[5]?.getD undef = .pointer (some ⟨w.heap.size + 1 + 1, 0, none⟩))
      refine Rn.val fun K_ hK_ => ?_
      go_simp
      exact hK_.out _ (Ext.refl _)
    refine RnL.cons (fun g16 A_ W_ hs_ => ?_) ?_
    · have q125_ := hs_.val 6 rfl rfl rfl
      refine Rn.val fun K_ hK_ => ?_
      go_simp
      exact hK_.out _ (Ext.refl _)
    refine RnL.cons (fun g16 A_ W_ hs_ => ?_) ?_
    · have q126_ := hs_.val 7 rfl rfl rfl
      have cB2_1 := ((HB2_16.out.drew.ext hs_.1)).cell 1 rfl
      refine Rn.val fun K_ hK_ => ?_
      go_simp
      exact hK_.out _ (Ext.refl _)
    refine RnL.cons (fun g16 A_ W_ hs_ => ?_) ?_
    · have q124_ := hs_.val 5 rfl rfl rfl
      have q127_ := hs_.val 8 rfl rfl rfl
      refine Rn.val fun K_ hK_ => ?_
      go_simp
      refine (rmul_c a.x b.y _ (HG.out.ext (HX16.out.drew.trans hs_.1)) HA4.out.x HB4.out.y (by omega) (by omega)).mono ?_; rintro e W9_ ⟨rfl, e9_⟩; exact hK_.out _ e9_
    refine RnL.cons (fun g16 A_ W_ hs_ => ?_) ?_
    · have q4_ := (hs_.old 4 (by kernel_rfl) : A_.tmps[4]?.getD undef = .pointer (some ⟨w.heap.size + 1, 0, none⟩))
      refine Rn.val fun K_ hK_ => ?_
      go_simp
      exact hK_.out _ (Ext.refl _)
    refine RnL.cons (fun g16 A_ W_ hs_ => ?_) ?_
    · have q129_ := hs_.val 10 rfl rfl rfl
      refine Rn.val fun K_ hK_ => ?_
      go_simp
      exact hK_.out _ (Ext.refl _)
    refine RnL.cons (fun g16 A_ W_ hs_ => ?_) ?_
    · have q130_ := hs_.val 11 rfl rfl rfl
      have cB1_1 := ((HB1_16.out.drew.ext hs_.1)).cell 1 rfl
      refine Rn.val fun K_ hK_ => ?_
      go_simp
      exact hK_.out _ (Ext.refl _)
    refine RnL.cons (fun g16 A_ W_ hs_ => ?_) ?_
    · have q5_ := (hs_.old 5 (by kernel_rfl) : A_.tmps[5]?.getD undef = .pointer (some ⟨w.heap.size + 1 + 1, 0, none⟩))
      refine Rn.val fun K_ hK_ => ?_
      go_simp
      exact hK_.out _ (Ext.refl _)
    refine RnL.cons (fun g16 A_ W_ hs_ => ?_) ?_
    · have q132_ := hs_.val 13 rfl rfl rfl
      refine Rn.val fun K_ hK_ => ?_
      go_simp
      exact hK_.out _ (Ext.refl _)
    refine RnL.cons (fun g16 A_ W_ hs_ => ?_) ?_
    · have q133_ := hs_.val 14 rfl rfl rfl
      have cB2_0 := ((HB2_16.out.drew.ext hs_.1)).cell 0 rfl
      refine Rn.val fun K_ hK_ => ?_
      go_simp
      exact hK_.out _ (Ext.refl _)
    refine RnL.cons (fun g16 A_ W_ hs_ => ?_) ?_
    · have q131_ := hs_.val 12 rfl rfl rfl
      have q134_ := hs_.val 15 rfl rfl rfl
      refine Rn.val fun K_ hK_ => ?_
      go_simp
      refine (rmul_c a.y b.x _ (HG.out.ext (HX16.out.drew.trans hs_.1)) HA4.out.y HB4.out.x (by omega) (by omega)).mono ?_; rintro e W9_ ⟨rfl, e9_⟩; exact hK_.out _ e9_
    refine RnL.cons (fun g16 A_ W_ hs_ => ?_) ?_
    · have q128_ := hs_.val 9 rfl rfl rfl
      have q135_ := hs_.val 16 rfl rfl rfl
      refine Rn.val fun K_ hK_ => ?_
      go_simp
      refine (rcompare_c (a.x * b.y) (a.y * b.x) _ (HG.out.ext (HX16.out.drew.trans hs_.1)) (HA4.out.x.mul HB4.out.y) (HA4.out.y.mul HB4.out.x) (by omega) (by omega)).mono ?_; rintro e W9_ ⟨rfl, e9_⟩; exact hK_.out _ e9_
    refine RnL.cons (fun g16 A_ W_ hs_ => ?_) ?_
    · have q136_ := hs_.val 17 rfl rfl rfl
      refine Rn.val fun K_ hK_ => ?_
      go_simp
      exact hK_.out _ (Ext.refl _)
    refine RnL.cons (fun g16 A_ W_ hs_ => ?_) ?_
    · have q121_ := hs_.val 2 rfl rfl rfl
      have q137_ := hs_.val 18 rfl rfl rfl
      refine Rn.val fun K_ hK_ => ?_
      go_simp
      exact hK_.out _ (Ext.refl _)
    exact RnL.nil
  simp only [fs, Kd.value, puts, Act.put, List.setIfInBounds_toArray, List.set_cons_zero, List.set_cons_succ]
  have HX17 : Hid (Ext w w17) := Lib.hid (HX16.out.drew.trans hx_)
  have HB1_17 := Lib.hid (HB1_16.out.drew.ext hx_)
  have HB2_17 := Lib.hid (HB2_16.out.drew.ext hx_)
  have HB4_17 := Lib.hid (HB4_16.out.drew.ext hx_)
  clear hx_ hm_ hne_
  go_wp2_with fail
  refine wp_name (fun W => Ext w W ∧ Blk W (w.heap.size + 1) #[.string (qs a.x), .string (qs a.y), .string (qs p)] 55 ∧ Blk W (w.heap.size + 1 + 1) #[.string (qs b.x), .string (qs b.y), .string (qs q)] 55 ∧ Blk W (w7.heap.size) #[.string (qs X), .string (qs Y), .string ⟨#[49]⟩] 37) ⟨HX17.out, HB1_17.out, HB2_17.out, HB4_17.out⟩ ?_
  rintro w18 ⟨e18, bB1_18, bB2_18, bB4_18⟩
  have HX18 := Lib.hid e18; have HB1_18 := Lib.hid bB1_18; have HB2_18 := Lib.hid bB2_18; have HB4_18 := Lib.hid bB4_18
  clear e18 bB1_18 bB2_18 bB4_18
  refine region_lin [.val (.int .i64 0), .val (.bool true), .val (.bool true), .val (.pointer (some ⟨w7.heap.size, 0, none⟩)), .val (.string (qs X)), .val (.pointer (some ⟨w7.heap.size, 1, none⟩)), .val (.string (qs Y)), .mem (fun b_ => .slice (some ⟨b_, 0, none⟩) 2 2) #[.string (qs X), .string (qs Y)] 22 Option.none, .val (.bool true), .val (.bool true), .val (.bool true), .val (.pointer (some ⟨w7.heap.size, 2, none⟩)), .val (.string ⟨#[49]⟩), .val (.bool true), .val (.bool true), .val (.bool true), .val (.agg #[.string (qs X), .string (qs Y), .string ⟨#[49]⟩]), .val (.pointer (some ⟨w.heap.size + 1, 0, none⟩)), .val (.agg #[.string (qs a.x), .string (qs a.y)]), .val (.string (qs p)), .val (.pointer (some ⟨w.heap.size + 1, 2, none⟩)), .val (.string (qs p)), .val (.bool true), .val (.bool true), .val (.bool true), .val (.agg #[.string (qs X), .string (qs Y), .string ⟨#[49]⟩]), .val (.pointer (some ⟨w.heap.size + 1 + 1, 0, none⟩)), .val (.agg #[.string (qs b.x), .string (qs b.y)]), .val (.string (qs q)), .val (.pointer (some ⟨w.heap.size + 1 + 1, 2, none⟩)), .val (.string (qs q)), .val (.bool true), .val (.bool true), .val (.bool true)] (by kernel_rfl) (by kernel_rfl) (by kernel_rfl) ?_ (fun g18 w19 hx_ hm_ hne_ => ?_)
  · skip
    refine RnL.cons (fun g18 A_ W_ hs_ => ?_) ?_
    · have q11_ := (hs_.old 11 (by kernel_rfl) : A_.tmps[11]?.getD undef = .int .i64 0)
      refine Rn.val fun K_ hK_ => ?_
      go_simp
      exact hK_.out _ (Ext.refl _)
    refine RnL.cons (fun g18 A_ W_ hs_ => ?_) ?_
    · have q149_ := hs_.val 0 rfl rfl rfl
      refine Rn.val fun K_ hK_ => ?_
      go_simp
      exact hK_.out _ (Ext.refl _)
    refine RnL.cons (fun g18 A_ W_ hs_ => ?_) ?_
    · have q150_ := hs_.val 1 rfl rfl rfl
      refine Rn.val fun K_ hK_ => ?_
      go_simp
      exact hK_.out _ (Ext.refl _)
    refine RnL.cons (fun g18 A_ W_ hs_ => ?_) ?_
    · have q10_ := (hs_.old 10 (by kernel_rfl) : A_.tmps[10]?.getD undef = .pointer (some ⟨w7.heap.size, 0, none⟩))
      refine Rn.val fun K_ hK_ => ?_
      go_simp
      exact hK_.out _ (Ext.refl _)
    refine RnL.cons (fun g18 A_ W_ hs_ => ?_) ?_
    · have q152_ := hs_.val 3 rfl rfl rfl
      have cB4_0 := ((HB4_18.out.drew.ext hs_.1)).cell 0 rfl
      refine Rn.val fun K_ hK_ => ?_
      go_simp
      exact hK_.out _ (Ext.refl _)
    refine RnL.cons (fun g18 A_ W_ hs_ => ?_) ?_
    · have q10_ := (hs_.old 10 (by kernel_rfl) : A_.tmps[10]?.getD undef = .pointer (some ⟨w7.heap.size, 0, none⟩))
      refine Rn.val fun K_ hK_ => ?_
      go_simp
      exact hK_.out _ (Ext.refl _)
    refine RnL.cons (fun g18 A_ W_ hs_ => ?_) ?_
    · have q154_ := hs_.val 5 rfl rfl rfl
      have cB4_1 := ((HB4_18.out.drew.ext hs_.1)).cell 1 rfl
      refine Rn.val fun K_ hK_ => ?_
      go_simp
      exact hK_.out _ (Ext.refl _)
    refine RnL.cons (fun g18 A_ W_ hs_ => ?_) ?_
    · have q153_ := hs_.val 4 rfl rfl rfl
      have q155_ := hs_.val 6 rfl rfl rfl
      refine Rn.mem fun K_ hK_ => ?_
      go_simp
      exact hK_.out
    refine RnL.cons (fun g18 A_ W_ hs_ => ?_) ?_
    · have q156_ := (hs_.mem 7 rfl rfl rfl).1
      refine Rn.val fun K_ hK_ => ?_
      go_simp
      refine (right15_b [qs X, qs Y] 2 (g18 7) true _ (HG.out.ext (HX18.out.drew.trans hs_.1)) rfl (by decide) (sizes2 (HXB.out.len (by decide)) (HYB.out.len (by decide))) (show [qs X, qs Y].all rq = true by rw [List.all_cons, List.all_cons, rq_qs HXB.out, rq_qs HYB.out]; rfl) ((hs_.mem 7 rfl rfl rfl).2.2 rfl)).mono ?_; rintro e W9_ ⟨rfl, e9_⟩; exact hK_.out _ e9_
    refine RnL.cons (fun g18 A_ W_ hs_ => ?_) ?_
    · have q151_ := hs_.val 2 rfl rfl rfl
      have q157_ := hs_.val 8 rfl rfl rfl
      refine Rn.val fun K_ hK_ => ?_
      go_simp
      exact hK_.out _ (Ext.refl _)
    refine RnL.cons (fun g18 A_ W_ hs_ => ?_) ?_
    · have q158_ := hs_.val 9 rfl rfl rfl
      refine Rn.val fun K_ hK_ => ?_
      go_simp
      exact hK_.out _ (Ext.refl _)
    refine RnL.cons (fun g18 A_ W_ hs_ => ?_) ?_
    · have q10_ := (hs_.old 10 (by kernel_rfl) : A_.tmps[10]?.getD undef = .pointer (some ⟨w7.heap.size, 0, none⟩))
      refine Rn.val fun K_ hK_ => ?_
      go_simp
      exact hK_.out _ (Ext.refl _)
    refine RnL.cons (fun g18 A_ W_ hs_ => ?_) ?_
    · have q160_ := hs_.val 11 rfl rfl rfl
      have cB4_2 := ((HB4_18.out.drew.ext hs_.1)).cell 2 rfl
      refine Rn.val fun K_ hK_ => ?_
      go_simp
      exact hK_.out _ (Ext.refl _)
    refine RnL.cons (fun g18 A_ W_ hs_ => ?_) ?_
    · have q161_ := hs_.val 12 rfl rfl rfl
      refine Rn.val fun K_ hK_ => ?_
      go_simp
      exact hK_.out _ (Ext.refl _)
    refine RnL.cons (fun g18 A_ W_ hs_ => ?_) ?_
    · have q159_ := hs_.val 10 rfl rfl rfl
      have q162_ := hs_.val 13 rfl rfl rfl
      refine Rn.val fun K_ hK_ => ?_
      go_simp
      exact hK_.out _ (Ext.refl _)
    refine RnL.cons (fun g18 A_ W_ hs_ => ?_) ?_
    · have q163_ := hs_.val 14 rfl rfl rfl
      refine Rn.val fun K_ hK_ => ?_
      go_simp
      exact hK_.out _ (Ext.refl _)
    refine RnL.cons (fun g18 A_ W_ hs_ => ?_) ?_
    · have q10_ := (hs_.old 10 (by kernel_rfl) : A_.tmps[10]?.getD undef = .pointer (some ⟨w7.heap.size, 0, none⟩))
      have cB4_0 := ((HB4_18.out.drew.ext hs_.1)).cell 0 rfl
      have cB4_1 := ((HB4_18.out.drew.ext hs_.1)).cell 1 rfl
      have cB4_2 := ((HB4_18.out.drew.ext hs_.1)).cell 2 rfl
      refine Rn.val fun K_ hK_ => ?_
      go_simp
      exact hK_.out _ (Ext.refl _)
    refine RnL.cons (fun g18 A_ W_ hs_ => ?_) ?_
    · have q4_ := (hs_.old 4 (by kernel_rfl) : A_.tmps[4]?.getD undef = .pointer (some ⟨w.heap.size + 1, 0, none⟩))
      refine Rn.val fun K_ hK_ => ?_
      go_simp
      exact hK_.out _ (Ext.refl _)
    refine RnL.cons (fun g18 A_ W_ hs_ => ?_) ?_
    · have q166_ := hs_.val 17 rfl rfl rfl
      have cB1_0 := ((HB1_18.out.drew.ext hs_.1)).cell 0 rfl
      have cB1_1 := ((HB1_18.out.drew.ext hs_.1)).cell 1 rfl
      refine Rn.val fun K_ hK_ => ?_
      go_simp
      exact hK_.out _ (Ext.refl _)
    refine RnL.cons (fun g18 A_ W_ hs_ => ?_) ?_
    · have q165_ := hs_.val 16 rfl rfl rfl
      have q167_ := hs_.val 18 rfl rfl rfl
      refine Rn.val fun K_ hK_ => ?_
      go_simp
      refine (lfall_m X Y a p _ (HG.out.ext (HX18.out.drew.trans hs_.1)) HXB.out HYB.out HA4.out HFA.out).mono ?_; rintro e W9_ ⟨rfl, e9_⟩; exact hK_.out _ e9_
    refine RnL.cons (fun g18 A_ W_ hs_ => ?_) ?_
    · have q4_ := (hs_.old 4 (by kernel_rfl) : A_.tmps[4]?.getD undef = .pointer (some ⟨w.heap.size + 1, 0, none⟩))
      refine Rn.val fun K_ hK_ => ?_
      go_simp
      exact hK_.out _ (Ext.refl _)
    refine RnL.cons (fun g18 A_ W_ hs_ => ?_) ?_
    · have q169_ := hs_.val 20 rfl rfl rfl
      have cB1_2 := ((HB1_18.out.drew.ext hs_.1)).cell 2 rfl
      refine Rn.val fun K_ hK_ => ?_
      go_simp
      exact hK_.out _ (Ext.refl _)
    refine RnL.cons (fun g18 A_ W_ hs_ => ?_) ?_
    · have q168_ := hs_.val 19 rfl rfl rfl
      have q170_ := hs_.val 21 rfl rfl rfl
      refine Rn.val fun K_ hK_ => ?_
      go_simp
      exact hK_.out _ (Ext.refl _)
    refine RnL.cons (fun g18 A_ W_ hs_ => ?_) ?_
    · have q164_ := hs_.val 15 rfl rfl rfl
      have q171_ := hs_.val 22 rfl rfl rfl
      refine Rn.val fun K_ hK_ => ?_
      go_simp
      exact hK_.out _ (Ext.refl _)
    refine RnL.cons (fun g18 A_ W_ hs_ => ?_) ?_
    · have q172_ := hs_.val 23 rfl rfl rfl
      refine Rn.val fun K_ hK_ => ?_
      go_simp
      exact hK_.out _ (Ext.refl _)
    refine RnL.cons (fun g18 A_ W_ hs_ => ?_) ?_
    · have q10_ := (hs_.old 10 (by kernel_rfl) : A_.tmps[10]?.getD undef = .pointer (some ⟨w7.heap.size, 0, none⟩))
      have cB4_0 := ((HB4_18.out.drew.ext hs_.1)).cell 0 rfl
      have cB4_1 := ((HB4_18.out.drew.ext hs_.1)).cell 1 rfl
      have cB4_2 := ((HB4_18.out.drew.ext hs_.1)).cell 2 rfl
      refine Rn.val fun K_ hK_ => ?_
      go_simp
      exact hK_.out _ (Ext.refl _)
    refine RnL.cons (fun g18 A_ W_ hs_ => ?_) ?_
    · have q5_ := (hs_.old 5 (by kernel_rfl) : A_.tmps[5]?.getD undef = .pointer (some ⟨w.heap.size + 1 + 1, 0, none⟩))
      refine Rn.val fun K_ hK_ => ?_
      go_simp
      exact hK_.out _ (Ext.refl _)
    refine RnL.cons (fun g18 A_ W_ hs_ => ?_) ?_
    · have q175_ := hs_.val 26 rfl rfl rfl
      have cB2_0 := ((HB2_18.out.drew.ext hs_.1)).cell 0 rfl
      have cB2_1 := ((HB2_18.out.drew.ext hs_.1)).cell 1 rfl
      refine Rn.val fun K_ hK_ => ?_
      go_simp
      exact hK_.out _ (Ext.refl _)
    refine RnL.cons (fun g18 A_ W_ hs_ => ?_) ?_
    · have q174_ := hs_.val 25 rfl rfl rfl
      have q176_ := hs_.val 27 rfl rfl rfl
      refine Rn.val fun K_ hK_ => ?_
      go_simp
      refine (lfall_m X Y b q _ (HG.out.ext (HX18.out.drew.trans hs_.1)) HXB.out HYB.out HB4.out HFB.out).mono ?_; rintro e W9_ ⟨rfl, e9_⟩; exact hK_.out _ e9_
    refine RnL.cons (fun g18 A_ W_ hs_ => ?_) ?_
    · have q5_ := (hs_.old 5 (by kernel_rfl) : A_.tmps[5]?.getD undef = .pointer (some ⟨w.heap.size + 1 + 1, 0, none⟩))
      refine Rn.val fun K_ hK_ => ?_
      go_simp
      exact hK_.out _ (Ext.refl _)
    refine RnL.cons (fun g18 A_ W_ hs_ => ?_) ?_
    · have q178_ := hs_.val 29 rfl rfl rfl
      have cB2_2 := ((HB2_18.out.drew.ext hs_.1)).cell 2 rfl
      refine Rn.val fun K_ hK_ => ?_
      go_simp
      exact hK_.out _ (Ext.refl _)
    refine RnL.cons (fun g18 A_ W_ hs_ => ?_) ?_
    · have q177_ := hs_.val 28 rfl rfl rfl
      have q179_ := hs_.val 30 rfl rfl rfl
      refine Rn.val fun K_ hK_ => ?_
      go_simp
      exact hK_.out _ (Ext.refl _)
    refine RnL.cons (fun g18 A_ W_ hs_ => ?_) ?_
    · have q173_ := hs_.val 24 rfl rfl rfl
      have q180_ := hs_.val 31 rfl rfl rfl
      refine Rn.val fun K_ hK_ => ?_
      go_simp
      exact hK_.out _ (Ext.refl _)
    refine RnL.cons (fun g18 A_ W_ hs_ => ?_) ?_
    · have q181_ := hs_.val 32 rfl rfl rfl
      refine Rn.val fun K_ hK_ => ?_
      go_simp
      exact hK_.out _ (Ext.refl _)
    exact RnL.nil
  simp only [fs, Kd.value, puts, Act.put, List.setIfInBounds_toArray, List.set_cons_zero, List.set_cons_succ, Nat.reduceAdd]
  have HX19 : Hid (Ext w w19) := Lib.hid (HX18.out.drew.trans hx_)
  have HB10_19 : Hid (Blk w19 (g18 7) #[.string (qs X), .string (qs Y)] 22) := Lib.hid (hm_ 7 _ _ _ _ rfl).2; have HGEB10 : Hid (w.heap.size ≤ g18 7) := Lib.hid (Nat.le_trans HX18.out.size (hm_ 7 _ _ _ _ rfl).1)
  clear hx_ hm_ hne_
  generalize g18 7 = i10 at *
  clear g18
  go_wp2
  go_ret
  exact ⟨rfl, HX19.out⟩
end Go.Proofs.YtplimbgaoengfaaGreatDoor
