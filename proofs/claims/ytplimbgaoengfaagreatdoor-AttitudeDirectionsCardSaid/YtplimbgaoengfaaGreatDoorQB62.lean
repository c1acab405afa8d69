/- Part 62 of the proof: N11w. -/
import Derived.Test.YtplimbgaoengfaaGreatDoorQB1
import Derived.Test.YtplimbgaoengfaaGreatDoorQB2
import Derived.Test.YtplimbgaoengfaaGreatDoorQB3
import Derived.Test.YtplimbgaoengfaaGreatDoorQB4
import Derived.Test.YtplimbgaoengfaaGreatDoorQB5
import Derived.Test.YtplimbgaoengfaaGreatDoorQB6
import Derived.Test.YtplimbgaoengfaaGreatDoorQB7
import Derived.Test.YtplimbgaoengfaaGreatDoorQB8
import Derived.Test.YtplimbgaoengfaaGreatDoorQB9
import Derived.Test.YtplimbgaoengfaaGreatDoorQB10
import Derived.Test.YtplimbgaoengfaaGreatDoorQB11
import Derived.Test.YtplimbgaoengfaaGreatDoorQB12
import Derived.Test.YtplimbgaoengfaaGreatDoorQB13
import Derived.Test.YtplimbgaoengfaaGreatDoorQB14
import Derived.Test.YtplimbgaoengfaaGreatDoorQB15
import Derived.Test.YtplimbgaoengfaaGreatDoorQB16
import Derived.Test.YtplimbgaoengfaaGreatDoorQB17
import Derived.Test.YtplimbgaoengfaaGreatDoorQB18
import Derived.Test.YtplimbgaoengfaaGreatDoorQB19
import Derived.Test.YtplimbgaoengfaaGreatDoorQB20
import Derived.Test.YtplimbgaoengfaaGreatDoorQB21
import Derived.Test.YtplimbgaoengfaaGreatDoorQB22
import Derived.Test.YtplimbgaoengfaaGreatDoorQB23
import Derived.Test.YtplimbgaoengfaaGreatDoorQB24
import Derived.Test.YtplimbgaoengfaaGreatDoorQB25
import Derived.Test.YtplimbgaoengfaaGreatDoorQB26
import Derived.Test.YtplimbgaoengfaaGreatDoorQB27
import Derived.Test.YtplimbgaoengfaaGreatDoorQB28
import Derived.Test.YtplimbgaoengfaaGreatDoorQB29
import Derived.Test.YtplimbgaoengfaaGreatDoorQB30
import Derived.Test.YtplimbgaoengfaaGreatDoorQB33
import Derived.Test.YtplimbgaoengfaaGreatDoorQB44
import Derived.Test.YtplimbgaoengfaaGreatDoorQB45
import Derived.Test.YtplimbgaoengfaaGreatDoorQB56
import Derived.Test.YtplimbgaoengfaaGreatDoorQB57
import Derived.Test.YtplimbgaoengfaaGreatDoorQB58
import Derived.Test.YtplimbgaoengfaaGreatDoorQB59
import Derived.Test.YtplimbgaoengfaaGreatDoorQB60
import Derived.Test.YtplimbgaoengfaaGreatDoorQB61
namespace Go.Proofs.YtplimbgaoengfaaGreatDoor
open Go Go.RowKit
set_option linter.unusedVariables false
theorem sq2_pos {n : V3} (h : ¬ (n.x = 0 ∧ n.y = 0)) : 0 < n.x * n.x + n.y * n.y := by
  have a := sq_nonneg' n.x; have b := sq_nonneg' n.y
  by_cases hx : n.x = 0
  · have := sq_pos' (fun e => h ⟨hx, e⟩ : n.y ≠ 0); grind
  · have := sq_pos' hx; grind

set_option maxRecDepth 100000 in
set_option maxHeartbeats 8000000 in
theorem dirs15_L (n : T3) (w : World) (g : Gd w) (hsz : [n.x, n.y, n.z].all sz24 = false) : Calls Tryz.prog 8 #[.agg #[.string n.x, .string n.y, .string n.z]] w (Ret w (.bool true)) := by
  have HG := Lib.hid g
  clear g
  have HSZ := Lib.hid hsz
  clear hsz
  go_enter Tryz.func8, Tryz.ntmps8
  go_wp2_with fail
  refine (known15_c _ (HG.out.ext ((Ext.refl w).alloc _))).mono ?_; rintro e w1 ⟨rfl, e1⟩
  have HX1 : Hid (Ext w w1) := Lib.hid (((Ext.refl w).alloc _).trans e1)
  have HB0_1 : Hid (Blk w1 (w.heap.size) #[.string n.x, .string n.y, .string n.z] 37) := Lib.hid (Blk.ext (Blk.new' (w := _) (cs := #[.string n.x, .string n.y, .string n.z]) (t := 37) (by first | rfl | (simp only [World.size_alloc]; done) | (simp only [World.size_alloc]; omega) | simp)) e1)
  have HGEB0 : Hid (w.heap.size ≤ w.heap.size) := Lib.hid (by first | omega | (simp only []; omega) | (simp; omega))
  clear e1
  have c0_0 := HB0_1.out.cell 0 rfl
  have c0_1 := HB0_1.out.cell 1 rfl
  have c0_2 := HB0_1.out.cell 2 rfl
  go_wp2_with fail
  refine (short15_b [n.x, n.y, n.z] 3 (w1.heap.size) false _ rfl (by decide) HSZ.out (Blk.new' (w := _) (cs := #[.string n.x, .string n.y, .string n.z]) (t := 22) (by first | rfl | (simp only [World.size_alloc]; done) | (simp only [World.size_alloc]; omega) | simp))).mono ?_; rintro e w2 ⟨rfl, e2⟩
  have HX2 : Hid (Ext w w2) := Lib.hid ((HX1.out.alloc _).trans e2)
  have HB1_2 : Hid (Blk w2 (w1.heap.size) #[.string n.x, .string n.y, .string n.z] 22) := Lib.hid (Blk.ext (Blk.new' (w := _) (cs := #[.string n.x, .string n.y, .string n.z]) (t := 22) (by first | rfl | (simp only [World.size_alloc]; done) | (simp only [World.size_alloc]; omega) | simp)) e2)
  have HGEB1 : Hid (w.heap.size ≤ w1.heap.size) := Lib.hid (by have := HX1.out.size; first | omega | (simp only []; omega) | (simp; omega))
  clear e2 c0_0 c0_1 c0_2
  go_wp2_with fail
  refine (known15_c _ (HG.out.ext HX2.out)).mono ?_; rintro e w3 ⟨rfl, e3⟩
  have HX3 : Hid (Ext w w3) := Lib.hid (HX2.out.trans e3)
  clear e3
  go_wp2
  go_ret
  exact ⟨rfl, HX3.out⟩

set_option maxRecDepth 100000 in
set_option maxHeartbeats 8000000 in
theorem dirs15_e (n : T3) (e : Int) (w : World) (g : Gd w) (hsz : [n.x, n.y, n.z].all sz24 = true) (hen : NErr n e) (he : e ≠ 0) : Calls Tryz.prog 8 #[.agg #[.string n.x, .string n.y, .string n.z]] w (Ret w (.bool true)) := by
  have HEN := Lib.hid hen
  have HE := Lib.hid he
  have HG := Lib.hid g
  clear hen he g
  have HSZ := Lib.hid hsz; clear hsz
  have e_d : (e != 0) = true := bne_iff_ne.2 HE.out
  have e_e : (e == 0) = false := beq_eq_false_iff_ne.2 HE.out
  go_enter Tryz.func8, Tryz.ntmps8
  go_wp2_with fail
  refine (known15_c _ (HG.out.ext ((Ext.refl w).alloc _))).mono ?_; rintro e w1 ⟨rfl, e1⟩
  have HX1 : Hid (Ext w w1) := Lib.hid (((Ext.refl w).alloc _).trans e1)
  have HB0_1 : Hid (Blk w1 (w.heap.size) #[.string n.x, .string n.y, .string n.z] 37) := Lib.hid (Blk.ext (Blk.new' (w := _) (cs := #[.string n.x, .string n.y, .string n.z]) (t := 37) (by first | rfl | (simp only [World.size_alloc]; done) | (simp only [World.size_alloc]; omega) | simp)) e1)
  have HGEB0 : Hid (w.heap.size ≤ w.heap.size) := Lib.hid (by first | omega | (simp only []; omega) | (simp; omega))
  clear e1
  have c0_0 := HB0_1.out.cell 0 rfl
  have c0_1 := HB0_1.out.cell 1 rfl
  have c0_2 := HB0_1.out.cell 2 rfl
  go_wp2_with fail
  refine (short15_b [n.x, n.y, n.z] 3 (w1.heap.size) true _ rfl (by decide) HSZ.out (Blk.new' (w := _) (cs := #[.string n.x, .string n.y, .string n.z]) (t := 22) (by first | rfl | (simp only [World.size_alloc]; done) | (simp only [World.size_alloc]; omega) | simp))).mono ?_; rintro e w2 ⟨rfl, e2⟩
  have HX2 : Hid (Ext w w2) := Lib.hid ((HX1.out.alloc _).trans e2)
  have HB0_2 : Hid (Blk w2 (w.heap.size) #[.string n.x, .string n.y, .string n.z] 37) := Lib.hid (Blk.ext (HB0_1.out.alloc _) e2)
  have HB1_2 : Hid (Blk w2 (w1.heap.size) #[.string n.x, .string n.y, .string n.z] 22) := Lib.hid (Blk.ext (Blk.new' (w := _) (cs := #[.string n.x, .string n.y, .string n.z]) (t := 22) (by first | rfl | (simp only [World.size_alloc]; done) | (simp only [World.size_alloc]; omega) | simp)) e2)
  have HGEB1 : Hid (w.heap.size ≤ w1.heap.size) := Lib.hid (by have := HX1.out.size; first | omega | (simp only []; omega) | (simp; omega))
  clear e2 c0_0 c0_1 c0_2
  have c0_0 := HB0_2.out.cell 0 rfl
  have c0_1 := HB0_2.out.cell 1 rfl
  have c0_2 := HB0_2.out.cell 2 rfl
  go_wp2_with fail
  refine (atow_l n e _ (HG.out.ext HX2.out) HEN.out HE.out).mono ?_; rintro e w3 ⟨rfl, e3⟩
  have HX3 : Hid (Ext w w3) := Lib.hid (HX2.out.trans e3)
  have HB0_3 := Lib.hid (Blk.ext HB0_2.out e3)
  clear e3 c0_0 c0_1 c0_2
  go_upto_region 4 with fail
  refine wp_name (fun W => Ext w W ∧ Blk W (w.heap.size) #[.string n.x, .string n.y, .string n.z] 37 ∧ Blk W (w3.heap.size) #[.string ⟨#[]⟩, .string ⟨#[]⟩] 24) ⟨(HX3.out.alloc _), (HB0_3.out.alloc _), (Blk.new' (w := _) (cs := #[.string ⟨#[]⟩, .string ⟨#[]⟩]) (t := 24) (by first | rfl | (simp only [World.size_alloc]; done) | (simp only [World.size_alloc]; omega) | simp))⟩ ?_
  rintro w4 ⟨e4, bB0_4, bB2_4⟩
  have HX4 := Lib.hid e4; have HB0_4 := Lib.hid bB0_4; have HB2_4 := Lib.hid bB2_4
  have HGEB2 : Hid (w.heap.size ≤ w3.heap.size) := Lib.hid (by have := HX3.out.size; first | omega | (simp only []; omega) | (simp; omega))
  clear e4 bB0_4 bB2_4
  have c0_0 := HB0_4.out.cell 0 rfl
  have c0_1 := HB0_4.out.cell 1 rfl
  have c0_2 := HB0_4.out.cell 2 rfl
  go_wp2_with fail
  refine (astr_l n e _ (HG.out.ext HX4.out) HEN.out HE.out).mono ?_; rintro e w5 ⟨rfl, e5⟩
  have HX5 : Hid (Ext w w5) := Lib.hid (HX4.out.trans e5)
  have HB0_5 := Lib.hid (Blk.ext HB0_4.out e5)
  have HB2_5 := Lib.hid (Blk.ext HB2_4.out e5)
  clear e5 c0_0 c0_1 c0_2
  go_upto_region 5 with fail
  refine wp_name (fun W => Ext w W ∧ Blk W (w.heap.size) #[.string n.x, .string n.y, .string n.z] 37 ∧ Blk W (w3.heap.size) #[.string ⟨#[]⟩, .string ⟨#[]⟩] 24 ∧ Blk W (w5.heap.size) #[.string ⟨#[]⟩, .string ⟨#[]⟩] 24) ⟨(HX5.out.alloc _), (HB0_5.out.alloc _), (HB2_5.out.alloc _), (Blk.new' (w := _) (cs := #[.string ⟨#[]⟩, .string ⟨#[]⟩]) (t := 24) (by first | rfl | (simp only [World.size_alloc]; done) | (simp only [World.size_alloc]; omega) | simp))⟩ ?_
  rintro w6 ⟨e6, bB0_6, bB2_6, bB3_6⟩
  have HX6 := Lib.hid e6; have HB0_6 := Lib.hid bB0_6; have HB2_6 := Lib.hid bB2_6; have HB3_6 := Lib.hid bB3_6
  have HGEB3 : Hid (w.heap.size ≤ w5.heap.size) := Lib.hid (by have := HX5.out.size; first | omega | (simp only []; omega) | (simp; omega))
  clear e6 bB0_6 bB2_6 bB3_6
  have c0_0 := HB0_6.out.cell 0 rfl
  have c0_1 := HB0_6.out.cell 1 rfl
  have c0_2 := HB0_6.out.cell 2 rfl
  go_wp2_with fail
  refine (lnorm_l _ (HG.out.ext HX6.out) HEN.out).mono ?_; rintro e w7 ⟨rfl, e7⟩
  have HX7 : Hid (Ext w w7) := Lib.hid (HX6.out.trans e7)
  have HB2_7 := Lib.hid (Blk.ext HB2_6.out e7)
  have HB3_7 := Lib.hid (Blk.ext HB3_6.out e7)
  clear e7 c0_0 c0_1 c0_2
  have c2_0 := HB2_7.out.cell 0 rfl
  have c2_1 := HB2_7.out.cell 1 rfl
  have c3_0 := HB3_7.out.cell 0 rfl
  have c3_1 := HB3_7.out.cell 1 rfl
  go_wp2
  go_ret
  exact ⟨rfl, HX7.out⟩

set_option maxRecDepth 100000 in
set_option maxHeartbeats 8000000 in
theorem dirs15_n (n : V3) (w : World) (g : Gd w) (hsz : [qs n.x, qs n.y, qs n.z].all sz24 = true) (hz : ¬ (n.x = 0 ∧ n.y = 0 ∧ n.z = 0)) (hx0 : n.x = 0) (hy0 : n.y = 0) : Calls Tryz.prog 8 #[.agg #[.string (qs n.x), .string (qs n.y), .string (qs n.z)]] w (Ret w (.bool true)) := by
  have HZ := Lib.hid hz
  have HG := Lib.hid g
  clear hz g
  have HSZ := Lib.hid hsz
  simp only [List.all_cons, List.all_nil, Bool.and_true, Bool.and_eq_true, sz24_true] at hsz
  obtain ⟨s0, s1, s2⟩ := hsz
  have HN4 : Hid (VB 24 n) := Lib.hid ⟨qb_of_size s0, qb_of_size s1, qb_of_size s2⟩
  clear s0 s1 s2
  have hx0_t := qs_is0 hx0
  have hy0_t := qs_is0 hy0
  have HXE := Lib.hid hx0; have HYE := Lib.hid hy0; clear hx0 hy0
  go_enter Tryz.func8, Tryz.ntmps8
  go_wp2_with fail
  refine (known15_c _ (HG.out.ext ((Ext.refl w).alloc _))).mono ?_; rintro e w1 ⟨rfl, e1⟩
  have HX1 : Hid (Ext w w1) := Lib.hid (((Ext.refl w).alloc _).trans e1)
  have HB0_1 : Hid (Blk w1 (w.heap.size) #[.string (qs n.x), .string (qs n.y), .string (qs n.z)] 37) := Lib.hid (Blk.ext (Blk.new' (w := _) (cs := #[.string (qs n.x), .string (qs n.y), .string (qs n.z)]) (t := 37) (by first | rfl | (simp only [World.size_alloc]; done) | (simp only [World.size_alloc]; omega) | simp)) e1)
  have HGEB0 : Hid (w.heap.size ≤ w.heap.size) := Lib.hid (by first | omega | (simp only []; omega) | (simp; omega))
  clear e1
  have c0_0 := HB0_1.out.cell 0 rfl
  have c0_1 := HB0_1.out.cell 1 rfl
  have c0_2 := HB0_1.out.cell 2 rfl
  go_wp2_with fail
  refine (short15_b [qs n.x, qs n.y, qs n.z] 3 (w1.heap.size) true _ rfl (by decide) HSZ.out (Blk.new' (w := _) (cs := #[.string (qs n.x), .string (qs n.y), .string (qs n.z)]) (t := 22) (by first | rfl | (simp only [World.size_alloc]; done) | (simp only [World.size_alloc]; omega) | simp))).mono ?_; rintro e w2 ⟨rfl, e2⟩
  have HX2 : Hid (Ext w w2) := Lib.hid ((HX1.out.alloc _).trans e2)
  have HB0_2 : Hid (Blk w2 (w.heap.size) #[.string (qs n.x), .string (qs n.y), .string (qs n.z)] 37) := Lib.hid (Blk.ext (HB0_1.out.alloc _) e2)
  have HB1_2 : Hid (Blk w2 (w1.heap.size) #[.string (qs n.x), .string (qs n.y), .string (qs n.z)] 22) := Lib.hid (Blk.ext (Blk.new' (w := _) (cs := #[.string (qs n.x), .string (qs n.y), .string (qs n.z)]) (t := 22) (by first | rfl | (simp only [World.size_alloc]; done) | (simp only [World.size_alloc]; omega) | simp)) e2)
  have HGEB1 : Hid (w.heap.size ≤ w1.heap.size) := Lib.hid (by have := HX1.out.size; first | omega | (simp only []; omega) | (simp; omega))
  clear e2 c0_0 c0_1 c0_2
  have c0_0 := HB0_2.out.cell 0 rfl
  have c0_1 := HB0_2.out.cell 1 rfl
  have c0_2 := HB0_2.out.cell 2 rfl
  go_wp2_with fail
  refine (atow_n n _ (HG.out.ext HX2.out) HN4.out HZ.out HXE.out HYE.out).mono ?_; rintro e w3 ⟨rfl, e3⟩
  have HX3 : Hid (Ext w w3) := Lib.hid (HX2.out.trans e3)
  have HB0_3 := Lib.hid (Blk.ext HB0_2.out e3)
  clear e3 c0_0 c0_1 c0_2
  go_upto_region 4 with fail
  refine wp_name (fun W => Ext w W ∧ Blk W (w.heap.size) #[.string (qs n.x), .string (qs n.y), .string (qs n.z)] 37 ∧ Blk W (w3.heap.size) #[.string ⟨#[]⟩, .string ⟨#[]⟩] 24) ⟨(HX3.out.alloc _), (HB0_3.out.alloc _), (Blk.new' (w := _) (cs := #[.string ⟨#[]⟩, .string ⟨#[]⟩]) (t := 24) (by first | rfl | (simp only [World.size_alloc]; done) | (simp only [World.size_alloc]; omega) | simp))⟩ ?_
  rintro w4 ⟨e4, bB0_4, bB2_4⟩
  have HX4 := Lib.hid e4; have HB0_4 := Lib.hid bB0_4; have HB2_4 := Lib.hid bB2_4
  have HGEB2 : Hid (w.heap.size ≤ w3.heap.size) := Lib.hid (by have := HX3.out.size; first | omega | (simp only []; omega) | (simp; omega))
  clear e4 bB0_4 bB2_4
  have c0_0 := HB0_4.out.cell 0 rfl
  have c0_1 := HB0_4.out.cell 1 rfl
  have c0_2 := HB0_4.out.cell 2 rfl
  go_wp2_with fail
  refine (astr_n n _ (HG.out.ext HX4.out) HN4.out HZ.out HXE.out HYE.out).mono ?_; rintro e w5 ⟨rfl, e5⟩
  have HX5 : Hid (Ext w w5) := Lib.hid (HX4.out.trans e5)
  have HB0_5 := Lib.hid (Blk.ext HB0_4.out e5)
  have HB2_5 := Lib.hid (Blk.ext HB2_4.out e5)
  clear e5 c0_0 c0_1 c0_2
  go_upto_region 5 with fail
  refine wp_name (fun W => Ext w W ∧ Blk W (w.heap.size) #[.string (qs n.x), .string (qs n.y), .string (qs n.z)] 37 ∧ Blk W (w3.heap.size) #[.string ⟨#[]⟩, .string ⟨#[]⟩] 24 ∧ Blk W (w5.heap.size) #[.string ⟨#[]⟩, .string ⟨#[]⟩] 24) ⟨(HX5.out.alloc _), (HB0_5.out.alloc _), (HB2_5.out.alloc _), (Blk.new' (w := _) (cs := #[.string ⟨#[]⟩, .string ⟨#[]⟩]) (t := 24) (by first | rfl | (simp only [World.size_alloc]; done) | (simp only [World.size_alloc]; omega) | simp))⟩ ?_
  rintro w6 ⟨e6, bB0_6, bB2_6, bB3_6⟩
  have HX6 := Lib.hid e6; have HB0_6 := Lib.hid bB0_6; have HB2_6 := Lib.hid bB2_6; have HB3_6 := Lib.hid bB3_6
  have HGEB3 : Hid (w.heap.size ≤ w5.heap.size) := Lib.hid (by have := HX5.out.size; first | omega | (simp only []; omega) | (simp; omega))
  clear e6 bB0_6 bB2_6 bB3_6
  have c0_0 := HB0_6.out.cell 0 rfl
  have c0_1 := HB0_6.out.cell 1 rfl
  have c0_2 := HB0_6.out.cell 2 rfl
  go_wp2_with fail
  refine (lnorm_ok n _ (HG.out.ext HX6.out) (HN4.out.mono (by decide)) HZ.out).mono ?_; rintro e w7 ⟨rfl, e7⟩
  have HX7 : Hid (Ext w w7) := Lib.hid (HX6.out.trans e7)
  have HB0_7 := Lib.hid (Blk.ext HB0_6.out e7)
  have HB2_7 := Lib.hid (Blk.ext HB2_6.out e7)
  have HB3_7 := Lib.hid (Blk.ext HB3_6.out e7)
  clear e7 c0_0 c0_1 c0_2
  have c0_0 := HB0_7.out.cell 0 rfl
  have c0_1 := HB0_7.out.cell 1 rfl
  have c2_0 := HB2_7.out.cell 0 rfl
  have c2_1 := HB2_7.out.cell 1 rfl
  have c3_0 := HB3_7.out.cell 0 rfl
  have c3_1 := HB3_7.out.cell 1 rfl
  go_wp2
  go_ret
  exact ⟨rfl, HX7.out⟩

set_option maxRecDepth 100000 in
set_option maxHeartbeats 16000000 in
theorem dirs15_m0 (n : V3) (w : World) (g : Gd w) (hsz : [qs n.x, qs n.y, qs n.z].all sz24 = true) (hs : n.z < 0) (hx0 : n.x ≠ 0) : Calls Tryz.prog 8 #[.agg #[.string (qs n.x), .string (qs n.y), .string (qs n.z)]] w (Ret w (.bool true)) := by
  have HG := Lib.hid g
  clear g
  have HSZ := Lib.hid hsz
  simp only [List.all_cons, List.all_nil, Bool.and_true, Bool.and_eq_true, sz24_true] at hsz
  obtain ⟨s0, s1, s2⟩ := hsz
  have HN4 : Hid (VB 24 n) := Lib.hid ⟨qb_of_size s0, qb_of_size s1, qb_of_size s2⟩
  clear s0 s1 s2
  have hx0_t := qs_not0 hx0
  have hs_d : decide (n.z.num < 0) = true := decide_eq_true (by exact rnum_neg.2 hs)
  have HZ : Hid (¬ (n.x = 0 ∧ n.y = 0 ∧ n.z = 0)) := Lib.hid (fun e => hx0 e.1)
  have HZ2 : Hid (¬ (n.x = 0 ∧ n.y = 0)) := Lib.hid (fun e => hx0 e.1)
  clear hx0
  obtain ⟨d, ed⟩ : ∃ d, todir n = d := ⟨_, rfl⟩
  have HD : Hid (TowOk n 24 d) := Lib.hid (ed ▸ tow_ok (by decide) (by decide) HN4.out HZ2.out)
  have HFX : (flatv n).x = -n.x := by unfold flatv; rw [if_pos hs]
  have HFY : (flatv n).y = -n.y := by unfold flatv; rw [if_pos hs]
  have hcr : -n.x * d.y - -n.y * d.x = 0 := by obtain ⟨c, _, e1, e2⟩ := HD.out.scale; rw [e1, e2, HFX, HFY]; grind
  have hcr_t := qs_is0 hcr
  have HDOT : Hid ((-n.x * d.x + -n.y * d.y).num.sign = 1) := Lib.hid (sgn_of_pos (by obtain ⟨c, hc, e1, e2⟩ := HD.out.scale; rw [e1, e2, HFX, HFY]; have := Rat.mul_pos (sq2_pos HZ2.out) hc; grind))
  have HPB : Hid (PB 200 d) := Lib.hid (HD.out.pb.mono (by decide))
  have HRT : Hid ([qs d.x, qs d.y].all rq = true) := Lib.hid HPB.out.all
  have HL2 : Hid (∀ (i : Nat) (hi : i < [qs d.x, qs d.y].length), ([qs d.x, qs d.y][i]).size ≤ 1000000) := Lib.hid (sizes2 HPB.out.ts.x HPB.out.ts.y)
  have HED := Lib.hid ed; clear ed hs hcr HFX HFY
  go_enter Tryz.func8, Tryz.ntmps8
  go_wp2_with fail
  refine (known15_c _ (HG.out.ext ((Ext.refl w).alloc _))).mono ?_; rintro e w1 ⟨rfl, e1⟩
  have HX1 : Hid (Ext w w1) := Lib.hid (((Ext.refl w).alloc _).trans e1)
  have HB0_1 : Hid (Blk w1 (w.heap.size) #[.string (qs n.x), .string (qs n.y), .string (qs n.z)] 37) := Lib.hid (Blk.ext (Blk.new' (w := _) (cs := #[.string (qs n.x), .string (qs n.y), .string (qs n.z)]) (t := 37) (by first | rfl | (simp only [World.size_alloc]; done) | (simp only [World.size_alloc]; omega) | simp)) e1)
  have HGEB0 : Hid (w.heap.size ≤ w.heap.size) := Lib.hid (by first | omega | (simp only []; omega) | (simp; omega))
  clear e1
  have c0_0 := HB0_1.out.cell 0 rfl
  have c0_1 := HB0_1.out.cell 1 rfl
  have c0_2 := HB0_1.out.cell 2 rfl
  go_wp2_with fail
  refine (short15_b [qs n.x, qs n.y, qs n.z] 3 (w1.heap.size) true _ rfl (by decide) HSZ.out (Blk.new' (w := _) (cs := #[.string (qs n.x), .string (qs n.y), .string (qs n.z)]) (t := 22) (by first | rfl | (simp only [World.size_alloc]; done) | (simp only [World.size_alloc]; omega) | simp))).mono ?_; rintro e w2 ⟨rfl, e2⟩
  have HX2 : Hid (Ext w w2) := Lib.hid ((HX1.out.alloc _).trans e2)
  have HB0_2 : Hid (Blk w2 (w.heap.size) #[.string (qs n.x), .string (qs n.y), .string (qs n.z)] 37) := Lib.hid (Blk.ext (HB0_1.out.alloc _) e2)
  have HB1_2 : Hid (Blk w2 (w1.heap.size) #[.string (qs n.x), .string (qs n.y), .string (qs n.z)] 22) := Lib.hid (Blk.ext (Blk.new' (w := _) (cs := #[.string (qs n.x), .string (qs n.y), .string (qs n.z)]) (t := 22) (by first | rfl | (simp only [World.size_alloc]; done) | (simp only [World.size_alloc]; omega) | simp)) e2)
  have HGEB1 : Hid (w.heap.size ≤ w1.heap.size) := Lib.hid (by have := HX1.out.size; first | omega | (simp only []; omega) | (simp; omega))
  clear e2 c0_0 c0_1 c0_2
  have c0_0 := HB0_2.out.cell 0 rfl
  have c0_1 := HB0_2.out.cell 1 rfl
  have c0_2 := HB0_2.out.cell 2 rfl
  go_wp2_with fail
  refine ((HED.out ▸ atow_ok n _ (HG.out.ext HX2.out) HN4.out HZ2.out)).mono ?_; rintro e w3 ⟨rfl, e3⟩
  have HX3 : Hid (Ext w w3) := Lib.hid (HX2.out.trans e3)
  have HB0_3 := Lib.hid (Blk.ext HB0_2.out e3)
  clear e3 c0_0 c0_1 c0_2
  go_upto_region 4 with fail
  refine wp_name (fun W => Ext w W ∧ Blk W (w.heap.size) #[.string (qs n.x), .string (qs n.y), .string (qs n.z)] 37 ∧ Blk W (w3.heap.size) #[.string (qs d.x), .string (qs d.y)] 24) ⟨(HX3.out.alloc _), (HB0_3.out.alloc _), (Blk.new' (w := _) (cs := #[.string (qs d.x), .string (qs d.y)]) (t := 24) (by first | rfl | (simp only [World.size_alloc]; done) | (simp only [World.size_alloc]; omega) | simp))⟩ ?_
  rintro w4 ⟨e4, bB0_4, bB2_4⟩
  have HX4 := Lib.hid e4; have HB0_4 := Lib.hid bB0_4; have HB2_4 := Lib.hid bB2_4
  have HGEB2 : Hid (w.heap.size ≤ w3.heap.size) := Lib.hid (by have := HX3.out.size; first | omega | (simp only []; omega) | (simp; omega))
  clear e4 bB0_4 bB2_4
  have c0_0 := HB0_4.out.cell 0 rfl
  have c0_1 := HB0_4.out.cell 1 rfl
  have c0_2 := HB0_4.out.cell 2 rfl
  go_wp2_with fail
  refine ((HED.out ▸ astr_ok n _ (HG.out.ext HX4.out) HN4.out HZ2.out)).mono ?_; rintro e w5 ⟨rfl, e5⟩
  have HX5 : Hid (Ext w w5) := Lib.hid (HX4.out.trans e5)
  have HB0_5 := Lib.hid (Blk.ext HB0_4.out e5)
  have HB2_5 := Lib.hid (Blk.ext HB2_4.out e5)
  clear e5 c0_0 c0_1 c0_2
  go_upto_region 5 with fail
  refine wp_name (fun W => Ext w W ∧ Blk W (w.heap.size) #[.string (qs n.x), .string (qs n.y), .string (qs n.z)] 37 ∧ Blk W (w3.heap.size) #[.string (qs d.x), .string (qs d.y)] 24 ∧ Blk W (w5.heap.size) #[.string (qs (-d.y)), .string (qs d.x)] 24) ⟨(HX5.out.alloc _), (HB0_5.out.alloc _), (HB2_5.out.alloc _), (Blk.new' (w := _) (cs := #[.string (qs (-d.y)), .string (qs d.x)]) (t := 24) (by first | rfl | (simp only [World.size_alloc]; done) | (simp only [World.size_alloc]; omega) | simp))⟩ ?_
  rintro w6 ⟨e6, bB0_6, bB2_6, bB3_6⟩
  have HX6 := Lib.hid e6; have HB0_6 := Lib.hid bB0_6; have HB2_6 := Lib.hid bB2_6; have HB3_6 := Lib.hid bB3_6
  have HGEB3 : Hid (w.heap.size ≤ w5.heap.size) := Lib.hid (by have := HX5.out.size; first | omega | (simp only []; omega) | (simp; omega))
  clear e6 bB0_6 bB2_6 bB3_6
  have c0_0 := HB0_6.out.cell 0 rfl
  have c0_1 := HB0_6.out.cell 1 rfl
  have c0_2 := HB0_6.out.cell 2 rfl
  go_wp2_with fail
  refine (lnorm_ok n _ (HG.out.ext HX6.out) (HN4.out.mono (by decide)) HZ.out).mono ?_; rintro e w7 ⟨rfl, e7⟩
  have HX7 : Hid (Ext w w7) := Lib.hid (HX6.out.trans e7)
  have HB0_7 := Lib.hid (Blk.ext HB0_6.out e7)
  have HB2_7 := Lib.hid (Blk.ext HB2_6.out e7)
  have HB3_7 := Lib.hid (Blk.ext HB3_6.out e7)
  clear e7 c0_0 c0_1 c0_2
  have c0_0 := HB0_7.out.cell 0 rfl
  go_wp2_with fail
  refine wp_name (fun W => Ext w W ∧ Blk W (w.heap.size) #[.string (qs n.x), .string (qs n.y), .string (qs n.z)] 37 ∧ Blk W (w3.heap.size) #[.string (qs d.x), .string (qs d.y)] 24 ∧ Blk W (w5.heap.size) #[.string (qs (-d.y)), .string (qs d.x)] 24) ⟨HX7.out, HB0_7.out, HB2_7.out, HB3_7.out⟩ ?_
  rintro w8 ⟨e8, bB0_8, bB2_8, bB3_8⟩
  have HX8 := Lib.hid e8; have HB0_8 := Lib.hid bB0_8; have HB2_8 := Lib.hid bB2_8; have HB3_8 := Lib.hid bB3_8
  clear e8 bB0_8 bB2_8 bB3_8 c0_0
  refine region_lin [.val (.pointer (some ⟨w.heap.size, 0, none⟩)), .val (.string (qs n.x)), .val (.pointer (some ⟨w.heap.size, 1, none⟩)), .val (.string (qs n.y)), .val (.string (qs n.x)), .val (.string (qs n.y))] (by kernel_rfl) (by kernel_rfl) (by kernel_rfl) ?_ (fun g8 w9 hx_ hm_ hne_ => ?_)
  · skip
    refine RnL.cons (fun g8 A_ W_ hs_ => ?_) ?_
    · have q1_ := (hs_.old 1 (by kernel_rfl) : A_.tmps[1]?.getD undef = .pointer (some ⟨w.heap.size, 0, none⟩))
      refine Rn.val fun K_ hK_ => ?_
      go_simp
      exact hK_.out _ (Ext.refl _)
    refine RnL.cons (fun g8 A_ W_ hs_ => ?_) ?_
    · have q70_ := hs_.val 0 rfl rfl rfl
      have cB0_0 := ((HB0_8.out.drew.ext hs_.1)).cell 0 rfl
      refine Rn.val fun K_ hK_ => ?_
      go_simp
      exact hK_.out _ (Ext.refl _)
    refine RnL.cons (fun g8 A_ W_ hs_ => ?_) ?_
    · have q1_ := (hs_.old 1 (by kernel_rfl) : A_.tmps[1]?.getD undef = .pointer (some ⟨w.heap.size, 0, none⟩))
      refine Rn.val fun K_ hK_ => ?_
      go_simp
      exact hK_.out _ (Ext.refl _)
    refine RnL.cons (fun g8 A_ W_ hs_ => ?_) ?_
    · have q72_ := hs_.val 2 rfl rfl rfl
      have cB0_1 := ((HB0_8.out.drew.ext hs_.1)).cell 1 rfl
      refine Rn.val fun K_ hK_ => ?_
      go_simp
      exact hK_.out _ (Ext.refl _)
    refine RnL.cons (fun g8 A_ W_ hs_ => ?_) ?_
    · have q71_ := hs_.val 1 rfl rfl rfl
      refine Rn.val fun K_ hK_ => ?_
      go_simp
      exact hK_.out _ (Ext.refl _)
    refine RnL.cons (fun g8 A_ W_ hs_ => ?_) ?_
    · have q73_ := hs_.val 3 rfl rfl rfl
      refine Rn.val fun K_ hK_ => ?_
      go_simp
      exact hK_.out _ (Ext.refl _)
    exact RnL.nil
  simp only [fs, Kd.value, puts, Act.put, List.setIfInBounds_toArray, List.set_cons_zero, List.set_cons_succ]
  have HX9 : Hid (Ext w w9) := Lib.hid (HX8.out.drew.trans hx_)
  have HB0_9 := Lib.hid (HB0_8.out.drew.ext hx_)
  have HB2_9 := Lib.hid (HB2_8.out.drew.ext hx_)
  have HB3_9 := Lib.hid (HB3_8.out.drew.ext hx_)
  clear hx_ hm_ hne_
  have c0_2 := HB0_9.out.cell 2 rfl
  go_wp2_with fail
  refine (rsign_c n.z _).mono ?_; rintro e _ ⟨rfl, rfl⟩
  clear c0_2
  go_wp2_with fail
  refine (rneg_c n.x _ HN4.out.x (by omega)).mono ?_; rintro e w10 ⟨rfl, e10⟩
  have HX10 : Hid (Ext w w10) := Lib.hid (HX9.out.trans e10)
  have HB2_10 := Lib.hid (Blk.ext HB2_9.out e10)
  have HB3_10 := Lib.hid (Blk.ext HB3_9.out e10)
  clear e10
  go_wp2_with fail
  refine (rneg_c n.y _ HN4.out.y (by omega)).mono ?_; rintro e w11 ⟨rfl, e11⟩
  have HX11 : Hid (Ext w w11) := Lib.hid (HX10.out.trans e11)
  have HB2_11 := Lib.hid (Blk.ext HB2_10.out e11)
  have HB3_11 := Lib.hid (Blk.ext HB3_10.out e11)
  clear e11
  go_wp2_with fail
  refine wp_name (fun W => Ext w W ∧ Blk W (w3.heap.size) #[.string (qs d.x), .string (qs d.y)] 24 ∧ Blk W (w5.heap.size) #[.string (qs (-d.y)), .string (qs d.x)] 24) ⟨HX11.out, HB2_11.out, HB3_11.out⟩ ?_
  rintro w12 ⟨e12, bB2_12, bB3_12⟩
  have HX12 := Lib.hid e12; have HB2_12 := Lib.hid bB2_12; have HB3_12 := Lib.hid bB3_12
  clear e12 bB2_12 bB3_12
  refine region_lin [.val (.int .i64 0), .val (.bool false), .val (.bool false), .val (.int .i64 0), .val (.bool false), .val (.bool false), .val (.bool false), .val (.pointer (some ⟨w3.heap.size, 0, none⟩)), .val (.string (qs d.x)), .val (.pointer (some ⟨w3.heap.size, 1, none⟩)), .val (.string (qs d.y)), .mem (fun b_ => .slice (some ⟨b_, 0, none⟩) 2 2) #[.string (qs d.x), .string (qs d.y)] 22 Option.none, .val (.bool true), .val (.bool false), .val (.bool false), .val (.bool false), .val (.agg #[.string (qs (-d.y)), .string (qs d.x)]), .val (.pointer (some ⟨w3.heap.size, 1, none⟩)), .val (.string (qs d.y)), .val (.string (qs (-d.y))), .val (.pointer (some ⟨w3.heap.size, 0, none⟩)), .val (.string (qs d.x)), .val (.agg #[.string (qs (-d.y)), .string (qs d.x)]), .val (.bool false), .val (.bool false)] (by kernel_rfl) (by kernel_rfl) (by kernel_rfl) ?_ (fun g12 w13 hx_ hm_ hne_ => ?_)
  · skip
    refine RnL.cons (fun g12 A_ W_ hs_ => ?_) ?_
    · have q4_ := (hs_.old 4 (by kernel_rfl) : A_.tmps[4]?.getD undef = .int .i64 0)
      refine Rn.val fun K_ hK_ => ?_
      go_simp
      exact hK_.out _ (Ext.refl _)
    refine RnL.cons (fun g12 A_ W_ hs_ => ?_) ?_
    · have q82_ := hs_.val 0 rfl rfl rfl
      refine Rn.val fun K_ hK_ => ?_
      go_simp
      exact hK_.out _ (Ext.refl _)
    refine RnL.cons (fun g12 A_ W_ hs_ => ?_) ?_
    · have q83_ := hs_.val 1 rfl rfl rfl
      refine Rn.val fun K_ hK_ => ?_
      go_simp
      exact hK_.out _ (Ext.refl _)
    refine RnL.cons (fun g12 A_ W_ hs_ => ?_) ?_
    · have q6_ := (hs_.old 6 (by kernel_rfl) : A_.tmps[6]?.getD undef = .int .i64 0)
      refine Rn.val fun K_ hK_ => ?_
      go_simp
      exact hK_.out _ (Ext.refl _)
    refine RnL.cons (fun g12 A_ W_ hs_ => ?_) ?_
    · have q85_ := hs_.val 3 rfl rfl rfl
      refine Rn.val fun K_ hK_ => ?_
      go_simp
      exact hK_.out _ (Ext.refl _)
    refine RnL.cons (fun g12 A_ W_ hs_ => ?_) ?_
    · have q84_ := hs_.val 2 rfl rfl rfl
      have q86_ := hs_.val 4 rfl rfl rfl
      refine Rn.val fun K_ hK_ => ?_
      go_simp
      exact hK_.out _ (Ext.refl _)
    refine RnL.cons (fun g12 A_ W_ hs_ => ?_) ?_
    · have q87_ := hs_.val 5 rfl rfl rfl
      refine Rn.val fun K_ hK_ => ?_
      go_simp
      exact hK_.out _ (Ext.refl _)
    refine RnL.cons (fun g12 A_ W_ hs_ => ?_) ?_
    · have q3_ := (hs_.old 3 (by kernel_rfl) : A_.tmps[3]?.getD undef = .pointer (some ⟨w3.heap.size, 0, none⟩))
      refine Rn.val fun K_ hK_ => ?_
      go_simp
      exact hK_.out _ (Ext.refl _)
    refine RnL.cons (fun g12 A_ W_ hs_ => ?_) ?_
    · have q89_ := hs_.val 7 rfl rfl rfl
      have cB2_0 := ((HB2_12.out.drew.ext hs_.1)).cell 0 rfl
      refine Rn.val fun K_ hK_ => ?_
      go_simp
      exact hK_.out _ (Ext.refl _)
    refine RnL.cons (fun g12 A_ W_ hs_ => ?_) ?_
    · have q3_ := (hs_.old 3 (by kernel_rfl) : A_.tmps[3]?.getD undef = .pointer (some ⟨w3.heap.size, 0, none⟩))
      refine Rn.val fun K_ hK_ => ?_
      go_simp
      exact hK_.out _ (Ext.refl _)
    refine RnL.cons (fun g12 A_ W_ hs_ => ?_) ?_
    · have q91_ := hs_.val 9 rfl rfl rfl
      have cB2_1 := ((HB2_12.out.drew.ext hs_.1)).cell 1 rfl
      refine Rn.val fun K_ hK_ => ?_
      go_simp
      exact hK_.out _ (Ext.refl _)
    refine RnL.cons (fun g12 A_ W_ hs_ => ?_) ?_
    · have q90_ := hs_.val 8 rfl rfl rfl
      have q92_ := hs_.val 10 rfl rfl rfl
      refine Rn.mem fun K_ hK_ => ?_
      go_simp
      exact hK_.out
    refine RnL.cons (fun g12 A_ W_ hs_ => ?_) ?_
    · have q93_ := (hs_.mem 11 rfl rfl rfl).1
      refine Rn.val fun K_ hK_ => ?_
      go_simp
      refine (right15_b [qs d.x, qs d.y] 2 (g12 11) true _ (HG.out.ext (HX12.out.drew.trans hs_.1)) rfl (by decide) HL2.out HRT.out ((hs_.mem 11 rfl rfl rfl).2.2 rfl)).mono ?_; rintro e W9_ ⟨rfl, e9_⟩; exact hK_.out _ e9_
    refine RnL.cons (fun g12 A_ W_ hs_ => ?_) ?_
    · have q94_ := hs_.val 12 rfl rfl rfl
      refine Rn.val fun K_ hK_ => ?_
      go_simp
      exact hK_.out _ (Ext.refl _)
    refine RnL.cons (fun g12 A_ W_ hs_ => ?_) ?_
    · have q88_ := hs_.val 6 rfl rfl rfl
      have q95_ := hs_.val 13 rfl rfl rfl
      refine Rn.val fun K_ hK_ => ?_
      go_simp
      exact hK_.out _ (Ext.refl _)
    refine RnL.cons (fun g12 A_ W_ hs_ => ?_) ?_
    · have q96_ := hs_.val 14 rfl rfl rfl
      refine Rn.val fun K_ hK_ => ?_
      go_simp
      exact hK_.out _ (Ext.refl _)
    refine RnL.cons (fun g12 A_ W_ hs_ => ?_) ?_
    · have q5_ := (hs_.old 5 (by kernel_rfl) : A_.tmps[5]?.getD undef = .pointer (some ⟨w5.heap.size, 0, none⟩))
      have cB3_0 := ((HB3_12.out.drew.ext hs_.1)).cell 0 rfl
      have cB3_1 := ((HB3_12.out.drew.ext hs_.1)).cell 1 rfl
      refine Rn.val fun K_ hK_ => ?_
      go_simp
      exact hK_.out _ (Ext.refl _)
    refine RnL.cons (fun g12 A_ W_ hs_ => ?_) ?_
    · have q3_ := (hs_.old 3 (by kernel_rfl) : A_.tmps[3]?.getD undef = .pointer (some ⟨w3.heap.size, 0, none⟩))
      refine Rn.val fun K_ hK_ => ?_
      go_simp
      exact hK_.out _ (Ext.refl _)
    refine RnL.cons (fun g12 A_ W_ hs_ => ?_) ?_
    · have q99_ := hs_.val 17 rfl rfl rfl
      have cB2_1 := ((HB2_12.out.drew.ext hs_.1)).cell 1 rfl
      refine Rn.val fun K_ hK_ => ?_
      go_simp
      exact hK_.out _ (Ext.refl _)
    refine RnL.cons (fun g12 A_ W_ hs_ => ?_) ?_
    · have q100_ := hs_.val 18 rfl rfl rfl
      refine Rn.val fun K_ hK_ => ?_
      go_simp
      refine (rneg_c d.y _ HD.out.pb.y (by omega)).mono ?_; rintro e W9_ ⟨rfl, e9_⟩; exact hK_.out _ e9_
    refine RnL.cons (fun g12 A_ W_ hs_ => ?_) ?_
    · have q3_ := (hs_.old 3 (by kernel_rfl) : A_.tmps[3]?.getD undef = .pointer (some ⟨w3.heap.size, 0, none⟩))
      refine Rn.val fun K_ hK_ => ?_
      go_simp
      exact hK_.out _ (Ext.refl _)
    refine RnL.cons (fun g12 A_ W_ hs_ => ?_) ?_
    · have q102_ := hs_.val 20 rfl rfl rfl
      have cB2_0 := ((HB2_12.out.drew.ext hs_.1)).cell 0 rfl
      refine Rn.val fun K_ hK_ => ?_
      go_simp
      exact hK_.out _ (Ext.refl _)
    refine RnL.cons (fun g12 A_ W_ hs_ => ?_) ?_
    · have q101_ := hs_.val 19 rfl rfl rfl
      have q103_ := hs_.val 21 rfl rfl rfl
      refine Rn.val fun K_ hK_ => ?_
      go_simp
      exact hK_.out _ (Ext.refl _)
    refine RnL.cons (fun g12 A_ W_ hs_ => ?_) ?_
    · have q98_ := hs_.val 16 rfl rfl rfl
      have q104_ := hs_.val 22 rfl rfl rfl
      refine Rn.val fun K_ hK_ => ?_
      go_simp
      exact hK_.out _ (Ext.refl _)
    refine RnL.cons (fun g12 A_ W_ hs_ => ?_) ?_
    · have q97_ := hs_.val 15 rfl rfl rfl
      have q105_ := hs_.val 23 rfl rfl rfl
      refine Rn.val fun K_ hK_ => ?_
      go_simp
      exact hK_.out _ (Ext.refl _)
    exact RnL.nil
  simp only [fs, Kd.value, puts, Act.put, List.setIfInBounds_toArray, List.set_cons_zero, List.set_cons_succ, Nat.reduceAdd]
  have HX13 : Hid (Ext w w13) := Lib.hid (HX12.out.drew.trans hx_)
  have HB2_13 := Lib.hid (HB2_12.out.drew.ext hx_)
  have HB4_13 : Hid (Blk w13 (g12 11) #[.string (qs d.x), .string (qs d.y)] 22) := Lib.hid (hm_ 11 _ _ _ _ rfl).2; have HGEB4 : Hid (w.heap.size ≤ g12 11) := Lib.hid (Nat.le_trans HX12.out.size (hm_ 11 _ _ _ _ rfl).1)
  have HNEB2B4 : Hid (w3.heap.size ≠ g12 11) := Lib.hid (Nat.ne_of_lt (Nat.lt_of_lt_of_le HB2_12.out.lt (hm_ 11 _ _ _ _ rfl).1))
  clear hx_ hm_ hne_
  generalize g12 11 = i4 at *
  clear g12
  go_wp2_with fail
  refine wp_name (fun W => Ext w W ∧ Blk W (w3.heap.size) #[.string (qs d.x), .string (qs d.y)] 24) ⟨HX13.out, HB2_13.out⟩ ?_
  rintro w14 ⟨e14, bB2_14⟩
  have HX14 := Lib.hid e14; have HB2_14 := Lib.hid bB2_14
  clear e14 bB2_14
  refine region_lin [.val (.string (qs (-n.x))), .val (.pointer (some ⟨w3.heap.size, 1, none⟩)), .val (.string (qs d.y)), .val (.string (qs (-n.x * d.y))), .val (.string (qs (-n.y))), .val (.pointer (some ⟨w3.heap.size, 0, none⟩)), .val (.string (qs d.x)), .val (.string (qs (-n.y * d.x))), .val (.string (qs (-n.x * d.y - -n.y * d.x))), .val (.string (qs (-n.x * d.y - -n.y * d.x)))] (by kernel_rfl) (by kernel_rfl) (by kernel_rfl) ?_ (fun g14 w15 hx_ hm_ hne_ => ?_)
  · skip
    refine RnL.cons (fun g14 A_ W_ hs_ => ?_) ?_
    · have q8_ := (hs_.old 8 (by kernel_rfl) : A_.tmps[8]?.getD undef = .string (qs (-n.x)))
      refine Rn.val fun K_ hK_ => ?_
      go_simp
      exact hK_.out _ (Ext.refl _)
    refine RnL.cons (fun g14 A_ W_ hs_ => ?_) ?_
    · have q3_ := (hs_.old 3 (by kernel_rfl) : A_.tmps[3]?.getD undef = .pointer (some ⟨w3.heap.size, 0, none⟩))
      refine Rn.val fun K_ hK_ => ?_
      go_simp
      exact hK_.out _ (Ext.refl _)
    refine RnL.cons (fun g14 A_ W_ hs_ => ?_) ?_
    · have q108_ := hs_.val 1 rfl rfl rfl
      have cB2_1 := ((HB2_14.out.drew.ext hs_.1)).cell 1 rfl
      refine Rn.val fun K_ hK_ => ?_
      go_simp
      exact hK_.out _ (Ext.refl _)
    refine RnL.cons (fun g14 A_ W_ hs_ => ?_) ?_
    · have q107_ := hs_.val 0 rfl rfl rfl
      have q109_ := hs_.val 2 rfl rfl rfl
      refine Rn.val fun K_ hK_ => ?_
      go_simp
      refine (rmul_c (-n.x) d.y _ (HG.out.ext (HX14.out.drew.trans hs_.1)) HN4.out.x.neg HD.out.pb.y (by omega) (by omega)).mono ?_; rintro e W9_ ⟨rfl, e9_⟩; exact hK_.out _ e9_
    refine RnL.cons (fun g14 A_ W_ hs_ => ?_) ?_
    · have q9_ := (hs_.old 9 (by kernel_rfl) : A_.tmps[9]?.getD undef = .string (qs (-n.y)))
      refine Rn.val fun K_ hK_ => ?_
      go_simp
      exact hK_.out _ (Ext.refl _)
    refine RnL.cons (fun g14 A_ W_ hs_ => ?_) ?_
    · have q3_ := (hs_.old 3 (by kernel_rfl) : A_.tmps[3]?.getD undef = .pointer (some ⟨w3.heap.size, 0, none⟩))
      refine Rn.val fun K_ hK_ => ?_
      go_simp
      exact hK_.out _ (Ext.refl _)
    refine RnL.cons (fun g14 A_ W_ hs_ => ?_) ?_
    · have q112_ := hs_.val 5 rfl rfl rfl
      have cB2_0 := ((HB2_14.out.drew.ext hs_.1)).cell 0 rfl
      refine Rn.val fun K_ hK_ => ?_
      go_simp
      exact hK_.out _ (Ext.refl _)
    refine RnL.cons (fun g14 A_ W_ hs_ => ?_) ?_
    · have q111_ := hs_.val 4 rfl rfl rfl
      have q113_ := hs_.val 6 rfl rfl rfl
      refine Rn.val fun K_ hK_ => ?_
      go_simp
      refine (rmul_c (-n.y) d.x _ (HG.out.ext (HX14.out.drew.trans hs_.1)) HN4.out.y.neg HD.out.pb.x (by omega) (by omega)).mono ?_; rintro e W9_ ⟨rfl, e9_⟩; exact hK_.out _ e9_
    refine RnL.cons (fun g14 A_ W_ hs_ => ?_) ?_
    · have q110_ := hs_.val 3 rfl rfl rfl
      have q114_ := hs_.val 7 rfl rfl rfl
      refine Rn.val fun K_ hK_ => ?_
      go_simp
      refine (rsub_c (-n.x * d.y) (-n.y * d.x) _ (HG.out.ext (HX14.out.drew.trans hs_.1)) (HN4.out.x.neg.mul HD.out.pb.y) (HN4.out.y.neg.mul HD.out.pb.x) (by omega) (by omega)).mono ?_; rintro e W9_ ⟨rfl, e9_⟩; exact hK_.out _ e9_
    refine RnL.cons (fun g14 A_ W_ hs_ => ?_) ?_
    · have q115_ := hs_.val 8 rfl rfl rfl
      refine Rn.val fun K_ hK_ => ?_
      go_simp
      exact hK_.out _ (Ext.refl _)
    exact RnL.nil
  simp only [fs, Kd.value, puts, Act.put, List.setIfInBounds_toArray, List.set_cons_zero, List.set_cons_succ]
  have HX15 : Hid (Ext w w15) := Lib.hid (HX14.out.drew.trans hx_)
  have HB2_15 := Lib.hid (HB2_14.out.drew.ext hx_)
  clear hx_ hm_ hne_
  go_wp2_with fail
  refine wp_name (fun W => Ext w W ∧ Blk W (w3.heap.size) #[.string (qs d.x), .string (qs d.y)] 24) ⟨HX15.out, HB2_15.out⟩ ?_
  rintro w16 ⟨e16, bB2_16⟩
  have HX16 := Lib.hid e16; have HB2_16 := Lib.hid bB2_16
  clear e16 bB2_16
  refine region_lin [.val (.string (qs (-n.x))), .val (.pointer (some ⟨w3.heap.size, 0, none⟩)), .val (.string (qs d.x)), .val (.string (qs (-n.x * d.x))), .val (.string (qs (-n.y))), .val (.pointer (some ⟨w3.heap.size, 1, none⟩)), .val (.string (qs d.y)), .val (.string (qs (-n.y * d.y))), .val (.string (qs (-n.x * d.x + -n.y * d.y))), .val (.string (qs (-n.x * d.x + -n.y * d.y)))] (by kernel_rfl) (by kernel_rfl) (by kernel_rfl) ?_ (fun g16 w17 hx_ hm_ hne_ => ?_)
  · skip
    refine RnL.cons (fun g16 A_ W_ hs_ => ?_) ?_
    · have q8_ := (hs_.old 8 (by kernel_rfl) : A_.tmps[8]?.getD undef = .string (qs (-n.x)))
      refine Rn.val fun K_ hK_ => ?_
      go_simp
      exact hK_.out _ (Ext.refl _)
    refine RnL.cons (fun g16 A_ W_ hs_ => ?_) ?_
    · have q3_ := (hs_.old 3 (by kernel_rfl) : A_.tmps[3]?.getD undef = .pointer (some ⟨w3.heap.size, 0, none⟩))
      refine Rn.val fun K_ hK_ => ?_
      go_simp
      exact hK_.out _ (Ext.refl _)
    refine RnL.cons (fun g16 A_ W_ hs_ => ?_) ?_
    · have q117_ := hs_.val 1 rfl rfl rfl
      have cB2_0 := ((HB2_16.out.drew.ext hs_.1)).cell 0 rfl
      refine Rn.val fun K_ hK_ => ?_
      go_simp
      exact hK_.out _ (Ext.refl _)
    refine RnL.cons (fun g16 A_ W_ hs_ => ?_) ?_
    · have q116_ := hs_.val 0 rfl rfl rfl
      have q118_ := hs_.val 2 rfl rfl rfl
      refine Rn.val fun K_ hK_ => ?_
      go_simp
      refine (rmul_c (-n.x) d.x _ (HG.out.ext (HX16.out.drew.trans hs_.1)) HN4.out.x.neg HD.out.pb.x (by omega) (by omega)).mono ?_; rintro e W9_ ⟨rfl, e9_⟩; exact hK_.out _ e9_
    refine RnL.cons (fun g16 A_ W_ hs_ => ?_) ?_
    · have q9_ := (hs_.old 9 (by kernel_rfl) : A_.tmps[9]?.getD undef = .string (qs (-n.y)))
      refine Rn.val fun K_ hK_ => ?_
      go_simp
      exact hK_.out _ (Ext.refl _)
    refine RnL.cons (fun g16 A_ W_ hs_ => ?_) ?_
    · have q3_ := (hs_.old 3 (by kernel_rfl) : A_.tmps[3]?.getD undef = .pointer (some ⟨w3.heap.size, 0, none⟩))
      refine Rn.val fun K_ hK_ => ?_
      go_simp
      exact hK_.out _ (Ext.refl _)
    refine RnL.cons (fun g16 A_ W_ hs_ => ?_) ?_
    · have q121_ := hs_.val 5 rfl rfl rfl
      have cB2_1 := ((HB2_16.out.drew.ext hs_.1)).cell 1 rfl
      refine Rn.val fun K_ hK_ => ?_
      go_simp
      exact hK_.out _ (Ext.refl _)
    refine RnL.cons (fun g16 A_ W_ hs_ => ?_) ?_
    · have q120_ := hs_.val 4 rfl rfl rfl
      have q122_ := hs_.val 6 rfl rfl rfl
      refine Rn.val fun K_ hK_ => ?_
      go_simp
      refine (rmul_c (-n.y) d.y _ (HG.out.ext (HX16.out.drew.trans hs_.1)) HN4.out.y.neg HD.out.pb.y (by omega) (by omega)).mono ?_; rintro e W9_ ⟨rfl, e9_⟩; exact hK_.out _ e9_
    refine RnL.cons (fun g16 A_ W_ hs_ => ?_) ?_
    · have q119_ := hs_.val 3 rfl rfl rfl
      have q123_ := hs_.val 7 rfl rfl rfl
      refine Rn.val fun K_ hK_ => ?_
      go_simp
      refine (radd_c (-n.x * d.x) (-n.y * d.y) _ (HG.out.ext (HX16.out.drew.trans hs_.1)) (HN4.out.x.neg.mul HD.out.pb.x) (HN4.out.y.neg.mul HD.out.pb.y) (by omega) (by omega)).mono ?_; rintro e W9_ ⟨rfl, e9_⟩; exact hK_.out _ e9_
    refine RnL.cons (fun g16 A_ W_ hs_ => ?_) ?_
    · have q124_ := hs_.val 8 rfl rfl rfl
      refine Rn.val fun K_ hK_ => ?_
      go_simp
      exact hK_.out _ (Ext.refl _)
    exact RnL.nil
  simp only [fs, Kd.value, puts, Act.put, List.setIfInBounds_toArray, List.set_cons_zero, List.set_cons_succ]
  have HX17 : Hid (Ext w w17) := Lib.hid (HX16.out.drew.trans hx_)
  have HB2_17 := Lib.hid (HB2_16.out.drew.ext hx_)
  clear hx_ hm_ hne_
  go_wp2_with fail
  refine ((HDOT.out ▸ rsign_c (-n.x * d.x + -n.y * d.y) _)).mono ?_; rintro e _ ⟨rfl, rfl⟩
  have c2_0 := HB2_17.out.cell 0 rfl
  have c2_1 := HB2_17.out.cell 1 rfl
  go_wp2_with fail
  refine (lprim_c d.x d.y (w17.heap.size) _ (HG.out.ext (HX17.out.alloc _)) HPB.out.x HPB.out.y HD.out.ix HD.out.iy (Blk.new' (w := _) (cs := #[.string (qs d.x), .string (qs d.y), .string ⟨#[48]⟩]) (t := 22) (by first | rfl | (simp only [World.size_alloc]; done) | (simp only [World.size_alloc]; omega) | simp)) HD.out.gcd).mono ?_; rintro e w18 ⟨rfl, e18⟩
  have HX18 : Hid (Ext w w18) := Lib.hid ((HX17.out.alloc _).trans e18)
  have HB5_18 : Hid (Blk w18 (w17.heap.size) #[.string (qs d.x), .string (qs d.y), .string ⟨#[48]⟩] 22) := Lib.hid (Blk.ext (Blk.new' (w := _) (cs := #[.string (qs d.x), .string (qs d.y), .string ⟨#[48]⟩]) (t := 22) (by first | rfl | (simp only [World.size_alloc]; done) | (simp only [World.size_alloc]; omega) | simp)) e18)
  have HGEB5 : Hid (w.heap.size ≤ w17.heap.size) := Lib.hid (by have := HX17.out.size; first | omega | (simp only []; omega) | (simp; omega))
  clear e18 c2_0 c2_1
  go_wp2
  go_ret
  exact ⟨rfl, HX18.out⟩

set_option maxRecDepth 100000 in
set_option maxHeartbeats 16000000 in
theorem dirs15_m1 (n : V3) (w : World) (g : Gd w) (hsz : [qs n.x, qs n.y, qs n.z].all sz24 = true) (hs : n.z < 0) (hx0 : n.x = 0) (hy0 : n.y ≠ 0) : Calls Tryz.prog 8 #[.agg #[.string (qs n.x), .string (qs n.y), .string (qs n.z)]] w (Ret w (.bool true)) := by
  have HG := Lib.hid g
  clear g
  have HSZ := Lib.hid hsz
  simp only [List.all_cons, List.all_nil, Bool.and_true, Bool.and_eq_true, sz24_true] at hsz
  obtain ⟨s0, s1, s2⟩ := hsz
  have HN4 : Hid (VB 24 n) := Lib.hid ⟨qb_of_size s0, qb_of_size s1, qb_of_size s2⟩
  clear s0 s1 s2
  have hx0_t := qs_is0 hx0
  have hy0_t := qs_not0 hy0
  have hs_d : decide (n.z.num < 0) = true := decide_eq_true (by exact rnum_neg.2 hs)
  have HZ : Hid (¬ (n.x = 0 ∧ n.y = 0 ∧ n.z = 0)) := Lib.hid (fun e => hy0 e.2.1)
  have HZ2 : Hid (¬ (n.x = 0 ∧ n.y = 0)) := Lib.hid (fun e => hy0 e.2)
  clear hx0 hy0
  obtain ⟨d, ed⟩ : ∃ d, todir n = d := ⟨_, rfl⟩
  have HD : Hid (TowOk n 24 d) := Lib.hid (ed ▸ tow_ok (by decide) (by decide) HN4.out HZ2.out)
  have HFX : (flatv n).x = -n.x := by unfold flatv; rw [if_pos hs]
  have HFY : (flatv n).y = -n.y := by unfold flatv; rw [if_pos hs]
  have hcr : -n.x * d.y - -n.y * d.x = 0 := by obtain ⟨c, _, e1, e2⟩ := HD.out.scale; rw [e1, e2, HFX, HFY]; grind
  have hcr_t := qs_is0 hcr
  have HDOT : Hid ((-n.x * d.x + -n.y * d.y).num.sign = 1) := Lib.hid (sgn_of_pos (by obtain ⟨c, hc, e1, e2⟩ := HD.out.scale; rw [e1, e2, HFX, HFY]; have := Rat.mul_pos (sq2_pos HZ2.out) hc; grind))
  have HPB : Hid (PB 200 d) := Lib.hid (HD.out.pb.mono (by decide))
  have HRT : Hid ([qs d.x, qs d.y].all rq = true) := Lib.hid HPB.out.all
  have HL2 : Hid (∀ (i : Nat) (hi : i < [qs d.x, qs d.y].length), ([qs d.x, qs d.y][i]).size ≤ 1000000) := Lib.hid (sizes2 HPB.out.ts.x HPB.out.ts.y)
  have HED := Lib.hid ed; clear ed hs hcr HFX HFY
  go_enter Tryz.func8, Tryz.ntmps8
  go_wp2_with fail
  refine (known15_c _ (HG.out.ext ((Ext.refl w).alloc _))).mono ?_; rintro e w1 ⟨rfl, e1⟩
  have HX1 : Hid (Ext w w1) := Lib.hid (((Ext.refl w).alloc _).trans e1)
  have HB0_1 : Hid (Blk w1 (w.heap.size) #[.string (qs n.x), .string (qs n.y), .string (qs n.z)] 37) := Lib.hid (Blk.ext (Blk.new' (w := _) (cs := #[.string (qs n.x), .string (qs n.y), .string (qs n.z)]) (t := 37) (by first | rfl | (simp only [World.size_alloc]; done) | (simp only [World.size_alloc]; omega) | simp)) e1)
  have HGEB0 : Hid (w.heap.size ≤ w.heap.size) := Lib.hid (by first | omega | (simp only []; omega) | (simp; omega))
  clear e1
  have c0_0 := HB0_1.out.cell 0 rfl
  have c0_1 := HB0_1.out.cell 1 rfl
  have c0_2 := HB0_1.out.cell 2 rfl
  go_wp2_with fail
  refine (short15_b [qs n.x, qs n.y, qs n.z] 3 (w1.heap.size) true _ rfl (by decide) HSZ.out (Blk.new' (w := _) (cs := #[.string (qs n.x), .string (qs n.y), .string (qs n.z)]) (t := 22) (by first | rfl | (simp only [World.size_alloc]; done) | (simp only [World.size_alloc]; omega) | simp))).mono ?_; rintro e w2 ⟨rfl, e2⟩
  have HX2 : Hid (Ext w w2) := Lib.hid ((HX1.out.alloc _).trans e2)
  have HB0_2 : Hid (Blk w2 (w.heap.size) #[.string (qs n.x), .string (qs n.y), .string (qs n.z)] 37) := Lib.hid (Blk.ext (HB0_1.out.alloc _) e2)
  have HB1_2 : Hid (Blk w2 (w1.heap.size) #[.string (qs n.x), .string (qs n.y), .string (qs n.z)] 22) := Lib.hid (Blk.ext (Blk.new' (w := _) (cs := #[.string (qs n.x), .string (qs n.y), .string (qs n.z)]) (t := 22) (by first | rfl | (simp only [World.size_alloc]; done) | (simp only [World.size_alloc]; omega) | simp)) e2)
  have HGEB1 : Hid (w.heap.size ≤ w1.heap.size) := Lib.hid (by have := HX1.out.size; first | omega | (simp only []; omega) | (simp; omega))
  clear e2 c0_0 c0_1 c0_2
  have c0_0 := HB0_2.out.cell 0 rfl
  have c0_1 := HB0_2.out.cell 1 rfl
  have c0_2 := HB0_2.out.cell 2 rfl
  go_wp2_with fail
  refine ((HED.out ▸ atow_ok n _ (HG.out.ext HX2.out) HN4.out HZ2.out)).mono ?_; rintro e w3 ⟨rfl, e3⟩
  have HX3 : Hid (Ext w w3) := Lib.hid (HX2.out.trans e3)
  have HB0_3 := Lib.hid (Blk.ext HB0_2.out e3)
  clear e3 c0_0 c0_1 c0_2
  go_upto_region 4 with fail
  refine wp_name (fun W => Ext w W ∧ Blk W (w.heap.size) #[.string (qs n.x), .string (qs n.y), .string (qs n.z)] 37 ∧ Blk W (w3.heap.size) #[.string (qs d.x), .string (qs d.y)] 24) ⟨(HX3.out.alloc _), (HB0_3.out.alloc _), (Blk.new' (w := _) (cs := #[.string (qs d.x), .string (qs d.y)]) (t := 24) (by first | rfl | (simp only [World.size_alloc]; done) | (simp only [World.size_alloc]; omega) | simp))⟩ ?_
  rintro w4 ⟨e4, bB0_4, bB2_4⟩
  have HX4 := Lib.hid e4; have HB0_4 := Lib.hid bB0_4; have HB2_4 := Lib.hid bB2_4
  have HGEB2 : Hid (w.heap.size ≤ w3.heap.size) := Lib.hid (by have := HX3.out.size; first | omega | (simp only []; omega) | (simp; omega))
  clear e4 bB0_4 bB2_4
  have c0_0 := HB0_4.out.cell 0 rfl
  have c0_1 := HB0_4.out.cell 1 rfl
  have c0_2 := HB0_4.out.cell 2 rfl
  go_wp2_with fail
  refine ((HED.out ▸ astr_ok n _ (HG.out.ext HX4.out) HN4.out HZ2.out)).mono ?_; rintro e w5 ⟨rfl, e5⟩
  have HX5 : Hid (Ext w w5) := Lib.hid (HX4.out.trans e5)
  have HB0_5 := Lib.hid (Blk.ext HB0_4.out e5)
  have HB2_5 := Lib.hid (Blk.ext HB2_4.out e5)
  clear e5 c0_0 c0_1 c0_2
  go_upto_region 5 with fail
  refine wp_name (fun W => Ext w W ∧ Blk W (w.heap.size) #[.string (qs n.x), .string (qs n.y), .string (qs n.z)] 37 ∧ Blk W (w3.heap.size) #[.string (qs d.x), .string (qs d.y)] 24 ∧ Blk W (w5.heap.size) #[.string (qs (-d.y)), .string (qs d.x)] 24) ⟨(HX5.out.alloc _), (HB0_5.out.alloc _), (HB2_5.out.alloc _), (Blk.new' (w := _) (cs := #[.string (qs (-d.y)), .string (qs d.x)]) (t := 24) (by first | rfl | (simp only [World.size_alloc]; done) | (simp only [World.size_alloc]; omega) | simp))⟩ ?_
  rintro w6 ⟨e6, bB0_6, bB2_6, bB3_6⟩
  have HX6 := Lib.hid e6; have HB0_6 := Lib.hid bB0_6; have HB2_6 := Lib.hid bB2_6; have HB3_6 := Lib.hid bB3_6
  have HGEB3 : Hid (w.heap.size ≤ w5.heap.size) := Lib.hid (by have := HX5.out.size; first | omega | (simp only []; omega) | (simp; omega))
  clear e6 bB0_6 bB2_6 bB3_6
  have c0_0 := HB0_6.out.cell 0 rfl
  have c0_1 := HB0_6.out.cell 1 rfl
  have c0_2 := HB0_6.out.cell 2 rfl
  go_wp2_with fail
  refine (lnorm_ok n _ (HG.out.ext HX6.out) (HN4.out.mono (by decide)) HZ.out).mono ?_; rintro e w7 ⟨rfl, e7⟩
  have HX7 : Hid (Ext w w7) := Lib.hid (HX6.out.trans e7)
  have HB0_7 := Lib.hid (Blk.ext HB0_6.out e7)
  have HB2_7 := Lib.hid (Blk.ext HB2_6.out e7)
  have HB3_7 := Lib.hid (Blk.ext HB3_6.out e7)
  clear e7 c0_0 c0_1 c0_2
  have c0_0 := HB0_7.out.cell 0 rfl
  have c0_1 := HB0_7.out.cell 1 rfl
  go_wp2_with fail
  refine wp_name (fun W => Ext w W ∧ Blk W (w.heap.size) #[.string (qs n.x), .string (qs n.y), .string (qs n.z)] 37 ∧ Blk W (w3.heap.size) #[.string (qs d.x), .string (qs d.y)] 24 ∧ Blk W (w5.heap.size) #[.string (qs (-d.y)), .string (qs d.x)] 24) ⟨HX7.out, HB0_7.out, HB2_7.out, HB3_7.out⟩ ?_
  rintro w8 ⟨e8, bB0_8, bB2_8, bB3_8⟩
  have HX8 := Lib.hid e8; have HB0_8 := Lib.hid bB0_8; have HB2_8 := Lib.hid bB2_8; have HB3_8 := Lib.hid bB3_8
  clear e8 bB0_8 bB2_8 bB3_8 c0_0 c0_1
  refine region_lin [.val (.pointer (some ⟨w.heap.size, 0, none⟩)), .val (.string (qs n.x)), .val (.pointer (some ⟨w.heap.size, 1, none⟩)), .val (.string (qs n.y)), .val (.string (qs n.x)), .val (.string (qs n.y))] (by kernel_rfl) (by kernel_rfl) (by kernel_rfl) ?_ (fun g8 w9 hx_ hm_ hne_ => ?_)
  · skip
    refine RnL.cons (fun g8 A_ W_ hs_ => ?_) ?_
    · have q1_ := (hs_.old 1 (by kernel_rfl) : A_.tmps[1]?.getD undef = .pointer (some ⟨w.heap.size, 0, none⟩))
      refine Rn.val fun K_ hK_ => ?_
      go_simp
      exact hK_.out _ (Ext.refl _)
    refine RnL.cons (fun g8 A_ W_ hs_ => ?_) ?_
    · have q70_ := hs_.val 0 rfl rfl rfl
      have cB0_0 := ((HB0_8.out.drew.ext hs_.1)).cell 0 rfl
      refine Rn.val fun K_ hK_ => ?_
      go_simp
      exact hK_.out _ (Ext.refl _)
    refine RnL.cons (fun g8 A_ W_ hs_ => ?_) ?_
    · have q1_ := (hs_.old 1 (by kernel_rfl) : A_.tmps[1]?.getD undef = .pointer (some ⟨w.heap.size, 0, none⟩))
      refine Rn.val fun K_ hK_ => ?_
      go_simp
      exact hK_.out _ (Ext.refl _)
    refine RnL.cons (fun g8 A_ W_ hs_ => ?_) ?_
    · have q72_ := hs_.val 2 rfl rfl rfl
      have cB0_1 := ((HB0_8.out.drew.ext hs_.1)).cell 1 rfl
      refine Rn.val fun K_ hK_ => ?_
      go_simp
      exact hK_.out _ (Ext.refl _)
    refine RnL.cons (fun g8 A_ W_ hs_ => ?_) ?_
    · have q71_ := hs_.val 1 rfl rfl rfl
      refine Rn.val fun K_ hK_ => ?_
      go_simp
      exact hK_.out _ (Ext.refl _)
    refine RnL.cons (fun g8 A_ W_ hs_ => ?_) ?_
    · have q73_ := hs_.val 3 rfl rfl rfl
      refine Rn.val fun K_ hK_ => ?_
      go_simp
      exact hK_.out _ (Ext.refl _)
    exact RnL.nil
  simp only [fs, Kd.value, puts, Act.put, List.setIfInBounds_toArray, List.set_cons_zero, List.set_cons_succ]
  have HX9 : Hid (Ext w w9) := Lib.hid (HX8.out.drew.trans hx_)
  have HB0_9 := Lib.hid (HB0_8.out.drew.ext hx_)
  have HB2_9 := Lib.hid (HB2_8.out.drew.ext hx_)
  have HB3_9 := Lib.hid (HB3_8.out.drew.ext hx_)
  clear hx_ hm_ hne_
  have c0_2 := HB0_9.out.cell 2 rfl
  go_wp2_with fail
  refine (rsign_c n.z _).mono ?_; rintro e _ ⟨rfl, rfl⟩
  clear c0_2
  go_wp2_with fail
  refine (rneg_c n.x _ HN4.out.x (by omega)).mono ?_; rintro e w10 ⟨rfl, e10⟩
  have HX10 : Hid (Ext w w10) := Lib.hid (HX9.out.trans e10)
  have HB2_10 := Lib.hid (Blk.ext HB2_9.out e10)
  have HB3_10 := Lib.hid (Blk.ext HB3_9.out e10)
  clear e10
  go_wp2_with fail
  refine (rneg_c n.y _ HN4.out.y (by omega)).mono ?_; rintro e w11 ⟨rfl, e11⟩
  have HX11 : Hid (Ext w w11) := Lib.hid (HX10.out.trans e11)
  have HB2_11 := Lib.hid (Blk.ext HB2_10.out e11)
  have HB3_11 := Lib.hid (Blk.ext HB3_10.out e11)
  clear e11
  go_wp2_with fail
  refine wp_name (fun W => Ext w W ∧ Blk W (w3.heap.size) #[.string (qs d.x), .string (qs d.y)] 24 ∧ Blk W (w5.heap.size) #[.string (qs (-d.y)), .string (qs d.x)] 24) ⟨HX11.out, HB2_11.out, HB3_11.out⟩ ?_
  rintro w12 ⟨e12, bB2_12, bB3_12⟩
  have HX12 := Lib.hid e12; have HB2_12 := Lib.hid bB2_12; have HB3_12 := Lib.hid bB3_12
  clear e12 bB2_12 bB3_12
  refine region_lin [.val (.int .i64 0), .val (.bool false), .val (.bool false), .val (.int .i64 0), .val (.bool false), .val (.bool false), .val (.bool false), .val (.pointer (some ⟨w3.heap.size, 0, none⟩)), .val (.string (qs d.x)), .val (.pointer (some ⟨w3.heap.size, 1, none⟩)), .val (.string (qs d.y)), .mem (fun b_ => .slice (some ⟨b_, 0, none⟩) 2 2) #[.string (qs d.x), .string (qs d.y)] 22 Option.none, .val (.bool true), .val (.bool false), .val (.bool false), .val (.bool false), .val (.agg #[.string (qs (-d.y)), .string (qs d.x)]), .val (.pointer (some ⟨w3.heap.size, 1, none⟩)), .val (.string (qs d.y)), .val (.string (qs (-d.y))), .val (.pointer (some ⟨w3.heap.size, 0, none⟩)), .val (.string (qs d.x)), .val (.agg #[.string (qs (-d.y)), .string (qs d.x)]), .val (.bool false), .val (.bool false)] (by kernel_rfl) (by kernel_rfl) (by kernel_rfl) ?_ (fun g12 w13 hx_ hm_ hne_ => ?_)
  · skip
    refine RnL.cons (fun g12 A_ W_ hs_ => ?_) ?_
    · have q4_ := (hs_.old 4 (by kernel_rfl) : A_.tmps[4]?.getD undef = .int .i64 0)
      refine Rn.val fun K_ hK_ => ?_
      go_simp
      exact hK_.out _ (Ext.refl _)
    refine RnL.cons (fun g12 A_ W_ hs_ => ?_) ?_
    · have q82_ := hs_.val 0 rfl rfl rfl
      refine Rn.val fun K_ hK_ => ?_
      go_simp
      exact hK_.out _ (Ext.refl _)
    refine RnL.cons (fun g12 A_ W_ hs_ => ?_) ?_
    · have q83_ := hs_.val 1 rfl rfl rfl
      refine Rn.val fun K_ hK_ => ?_
      go_simp
      exact hK_.out _ (Ext.refl _)
    refine RnL.cons (fun g12 A_ W_ hs_ => ?_) ?_
    · have q6_ := (hs_.old 6 (by kernel_rfl) : A_.tmps[6]?.getD undef = .int .i64 0)
      refine Rn.val fun K_ hK_ => ?_
      go_simp
      exact hK_.out _ (Ext.refl _)
    refine RnL.cons (fun g12 A_ W_ hs_ => ?_) ?_
    · have q85_ := hs_.val 3 rfl rfl rfl
      refine Rn.val fun K_ hK_ => ?_
      go_simp
      exact hK_.out _ (Ext.refl _)
    refine RnL.cons (fun g12 A_ W_ hs_ => ?_) ?_
    · have q84_ := hs_.val 2 rfl rfl rfl
      have q86_ := hs_.val 4 rfl rfl rfl
      refine Rn.val fun K_ hK_ => ?_
      go_simp
      exact hK_.out _ (Ext.refl _)
    refine RnL.cons (fun g12 A_ W_ hs_ => ?_) ?_
    · have q87_ := hs_.val 5 rfl rfl rfl
      refine Rn.val fun K_ hK_ => ?_
      go_simp
      exact hK_.out _ (Ext.refl _)
    refine RnL.cons (fun g12 A_ W_ hs_ => ?_) ?_
    · have q3_ := (hs_.old 3 (by kernel_rfl) : A_.tmps[3]?.getD undef = .pointer (some ⟨w3.heap.size, 0, none⟩))
      refine Rn.val fun K_ hK_ => ?_
      go_simp
      exact hK_.out _ (Ext.refl _)
    refine RnL.cons (fun g12 A_ W_ hs_ => ?_) ?_
    · have q89_ := hs_.val 7 rfl rfl rfl
      have cB2_0 := ((HB2_12.out.drew.ext hs_.1)).cell 0 rfl
      refine Rn.val fun K_ hK_ => ?_
      go_simp
      exact hK_.out _ (Ext.refl _)
    refine RnL.cons (fun g12 A_ W_ hs_ => ?_) ?_
    · have q3_ := (hs_.old 3 (by kernel_rfl) : A_.tmps[3]?.getD undef = .pointer (some ⟨w3.heap.size, 0, none⟩))
      refine Rn.val fun K_ hK_ => ?_
      go_simp
      exact hK_.out _ (Ext.refl _)
    refine RnL.cons (fun g12 A_ W_ hs_ => ?_) ?_
    · have q91_ := hs_.val 9 rfl rfl rfl
      have cB2_1 := ((HB2_12.out.drew.ext hs_.1)).cell 1 rfl
      refine Rn.val fun K_ hK_ => ?_
      go_simp
      exact hK_.out _ (Ext.refl _)
    refine RnL.cons (fun g12 A_ W_ hs_ => ?_) ?_
    · have q90_ := hs_.val 8 rfl rfl rfl
      have q92_ := hs_.val 10 rfl rfl rfl
      refine Rn.mem fun K_ hK_ => ?_
      go_simp
      exact hK_.out
    refine RnL.cons (fun g12 A_ W_ hs_ => ?_) ?_
    · have q93_ := (hs_.mem 11 rfl rfl rfl).1
      refine Rn.val fun K_ hK_ => ?_
      go_simp
      refine (right15_b [qs d.x, qs d.y] 2 (g12 11) true _ (HG.out.ext (HX12.out.drew.trans hs_.1)) rfl (by decide) HL2.out HRT.out ((hs_.mem 11 rfl rfl rfl).2.2 rfl)).mono ?_; rintro e W9_ ⟨rfl, e9_⟩; exact hK_.out _ e9_
    refine RnL.cons (fun g12 A_ W_ hs_ => ?_) ?_
    · have q94_ := hs_.val 12 rfl rfl rfl
      refine Rn.val fun K_ hK_ => ?_
      go_simp
      exact hK_.out _ (Ext.refl _)
    refine RnL.cons (fun g12 A_ W_ hs_ => ?_) ?_
    · have q88_ := hs_.val 6 rfl rfl rfl
      have q95_ := hs_.val 13 rfl rfl rfl
      refine Rn.val fun K_ hK_ => ?_
      go_simp
      exact hK_.out _ (Ext.refl _)
    refine RnL.cons (fun g12 A_ W_ hs_ => ?_) ?_
    · have q96_ := hs_.val 14 rfl rfl rfl
      refine Rn.val fun K_ hK_ => ?_
      go_simp
      exact hK_.out _ (Ext.refl _)
    refine RnL.cons (fun g12 A_ W_ hs_ => ?_) ?_
    · have q5_ := (hs_.old 5 (by kernel_rfl) : A_.tmps[5]?.getD undef = .pointer (some ⟨w5.heap.size, 0, none⟩))
      have cB3_0 := ((HB3_12.out.drew.ext hs_.1)).cell 0 rfl
      have cB3_1 := ((HB3_12.out.drew.ext hs_.1)).cell 1 rfl
      refine Rn.val fun K_ hK_ => ?_
      go_simp
      exact hK_.out _ (Ext.refl _)
    refine RnL.cons (fun g12 A_ W_ hs_ => ?_) ?_
    · have q3_ := (hs_.old 3 (by kernel_rfl) : A_.tmps[3]?.getD undef = .pointer (some ⟨w3.heap.size, 0, none⟩))
      refine Rn.val fun K_ hK_ => ?_
      go_simp
      exact hK_.out _ (Ext.refl _)
    refine RnL.cons (fun g12 A_ W_ hs_ => ?_) ?_
    · have q99_ := hs_.val 17 rfl rfl rfl
      have cB2_1 := ((HB2_12.out.drew.ext hs_.1)).cell 1 rfl
      refine Rn.val fun K_ hK_ => ?_
      go_simp
      exact hK_.out _ (Ext.refl _)
    refine RnL.cons (fun g12 A_ W_ hs_ => ?_) ?_
    · have q100_ := hs_.val 18 rfl rfl rfl
      refine Rn.val fun K_ hK_ => ?_
      go_simp
      refine (rneg_c d.y _ HD.out.pb.y (by omega)).mono ?_; rintro e W9_ ⟨rfl, e9_⟩; exact hK_.out _ e9_
    refine RnL.cons (fun g12 A_ W_ hs_ => ?_) ?_
    · have q3_ := (hs_.old 3 (by kernel_rfl) : A_.tmps[3]?.getD undef = .pointer (some ⟨w3.heap.size, 0, none⟩))
      refine Rn.val fun K_ hK_ => ?_
      go_simp
      exact hK_.out _ (Ext.refl _)
    refine RnL.cons (fun g12 A_ W_ hs_ => ?_) ?_
    · have q102_ := hs_.val 20 rfl rfl rfl
      have cB2_0 := ((HB2_12.out.drew.ext hs_.1)).cell 0 rfl
      refine Rn.val fun K_ hK_ => ?_
      go_simp
      exact hK_.out _ (Ext.refl _)
    refine RnL.cons (fun g12 A_ W_ hs_ => ?_) ?_
    · have q101_ := hs_.val 19 rfl rfl rfl
      have q103_ := hs_.val 21 rfl rfl rfl
      refine Rn.val fun K_ hK_ => ?_
      go_simp
      exact hK_.out _ (Ext.refl _)
    refine RnL.cons (fun g12 A_ W_ hs_ => ?_) ?_
    · have q98_ := hs_.val 16 rfl rfl rfl
      have q104_ := hs_.val 22 rfl rfl rfl
      refine Rn.val fun K_ hK_ => ?_
      go_simp
      exact hK_.out _ (Ext.refl _)
    refine RnL.cons (fun g12 A_ W_ hs_ => ?_) ?_
    · have q97_ := hs_.val 15 rfl rfl rfl
      have q105_ := hs_.val 23 rfl rfl rfl
      refine Rn.val fun K_ hK_ => ?_
      go_simp
      exact hK_.out _ (Ext.refl _)
    exact RnL.nil
  simp only [fs, Kd.value, puts, Act.put, List.setIfInBounds_toArray, List.set_cons_zero, List.set_cons_succ, Nat.reduceAdd]
  have HX13 : Hid (Ext w w13) := Lib.hid (HX12.out.drew.trans hx_)
  have HB2_13 := Lib.hid (HB2_12.out.drew.ext hx_)
  have HB4_13 : Hid (Blk w13 (g12 11) #[.string (qs d.x), .string (qs d.y)] 22) := Lib.hid (hm_ 11 _ _ _ _ rfl).2; have HGEB4 : Hid (w.heap.size ≤ g12 11) := Lib.hid (Nat.le_trans HX12.out.size (hm_ 11 _ _ _ _ rfl).1)
  have HNEB2B4 : Hid (w3.heap.size ≠ g12 11) := Lib.hid (Nat.ne_of_lt (Nat.lt_of_lt_of_le HB2_12.out.lt (hm_ 11 _ _ _ _ rfl).1))
  clear hx_ hm_ hne_
  generalize g12 11 = i4 at *
  clear g12
  go_wp2_with fail
  refine wp_name (fun W => Ext w W ∧ Blk W (w3.heap.size) #[.string (qs d.x), .string (qs d.y)] 24) ⟨HX13.out, HB2_13.out⟩ ?_
  rintro w14 ⟨e14, bB2_14⟩
  have HX14 := Lib.hid e14; have HB2_14 := Lib.hid bB2_14
  clear e14 bB2_14
  refine region_lin [.val (.string (qs (-n.x))), .val (.pointer (some ⟨w3.heap.size, 1, none⟩)), .val (.string (qs d.y)), .val (.string (qs (-n.x * d.y))), .val (.string (qs (-n.y))), .val (.pointer (some ⟨w3.heap.size, 0, none⟩)), .val (.string (qs d.x)), .val (.string (qs (-n.y * d.x))), .val (.string (qs (-n.x * d.y - -n.y * d.x))), .val (.string (qs (-n.x * d.y - -n.y * d.x)))] (by kernel_rfl) (by kernel_rfl) (by kernel_rfl) ?_ (fun g14 w15 hx_ hm_ hne_ => ?_)
  · skip
    refine RnL.cons (fun g14 A_ W_ hs_ => ?_) ?_
    · have q8_ := (hs_.old 8 (by kernel_rfl) : A_.tmps[8]?.getD undef = .string (qs (-n.x)))
      refine Rn.val fun K_ hK_ => ?_
      go_simp
      exact hK_.out _ (Ext.refl _)
    refine RnL.cons (fun g14 A_ W_ hs_ => ?_) ?_
    · have q3_ := (hs_.old 3 (by kernel_rfl) : A_.tmps[3]?.getD undef = .pointer (some ⟨w3.heap.size, 0, none⟩))
      refine Rn.val fun K_ hK_ => ?_
      go_simp
      exact hK_.out _ (Ext.refl _)
    refine RnL.cons (fun g14 A_ W_ hs_ => ?_) ?_
    · have q108_ := hs_.val 1 rfl rfl rfl
      have cB2_1 := ((HB2_14.out.drew.ext hs_.1)).cell 1 rfl
      refine Rn.val fun K_ hK_ => ?_
      go_simp
      exact hK_.out _ (Ext.refl _)
    refine RnL.cons (fun g14 A_ W_ hs_ => ?_) ?_
    · have q107_ := hs_.val 0 rfl rfl rfl
      have q109_ := hs_.val 2 rfl rfl rfl
      refine Rn.val fun K_ hK_ => ?_
      go_simp
      refine (rmul_c (-n.x) d.y _ (HG.out.ext (HX14.out.drew.trans hs_.1)) HN4.out.x.neg HD.out.pb.y (by omega) (by omega)).mono ?_; rintro e W9_ ⟨rfl, e9_⟩; exact hK_.out _ e9_
    refine RnL.cons (fun g14 A_ W_ hs_ => ?_) ?_
    · have q9_ := (hs_.old 9 (by kernel_rfl) : A_.tmps[9]?.getD undef = .string (qs (-n.y)))
      refine Rn.val fun K_ hK_ => ?_
      go_simp
      exact hK_.out _ (Ext.refl _)
    refine RnL.cons (fun g14 A_ W_ hs_ => ?_) ?_
    · have q3_ := (hs_.old 3 (by kernel_rfl) : A_.tmps[3]?.getD undef = .pointer (some ⟨w3.heap.size, 0, none⟩))
      refine Rn.val fun K_ hK_ => ?_
      go_simp
      exact hK_.out _ (Ext.refl _)
    refine RnL.cons (fun g14 A_ W_ hs_ => ?_) ?_
    · have q112_ := hs_.val 5 rfl rfl rfl
      have cB2_0 := ((HB2_14.out.drew.ext hs_.1)).cell 0 rfl
      refine Rn.val fun K_ hK_ => ?_
      go_simp
      exact hK_.out _ (Ext.refl _)
    refine RnL.cons (fun g14 A_ W_ hs_ => ?_) ?_
    · have q111_ := hs_.val 4 rfl rfl rfl
      have q113_ := hs_.val 6 rfl rfl rfl
      refine Rn.val fun K_ hK_ => ?_
      go_simp
      refine (rmul_c (-n.y) d.x _ (HG.out.ext (HX14.out.drew.trans hs_.1)) HN4.out.y.neg HD.out.pb.x (by omega) (by omega)).mono ?_; rintro e W9_ ⟨rfl, e9_⟩; exact hK_.out _ e9_
    refine RnL.cons (fun g14 A_ W_ hs_ => ?_) ?_
    · have q110_ := hs_.val 3 rfl rfl rfl
      have q114_ := hs_.val 7 rfl rfl rfl
      refine Rn.val fun K_ hK_ => ?_
      go_simp
      refine (rsub_c (-n.x * d.y) (-n.y * d.x) _ (HG.out.ext (HX14.out.drew.trans hs_.1)) (HN4.out.x.neg.mul HD.out.pb.y) (HN4.out.y.neg.mul HD.out.pb.x) (by omega) (by omega)).mono ?_; rintro e W9_ ⟨rfl, e9_⟩; exact hK_.out _ e9_
    refine RnL.cons (fun g14 A_ W_ hs_ => ?_) ?_
    · have q115_ := hs_.val 8 rfl rfl rfl
      refine Rn.val fun K_ hK_ => ?_
      go_simp
      exact hK_.out _ (Ext.refl _)
    exact RnL.nil
  simp only [fs, Kd.value, puts, Act.put, List.setIfInBounds_toArray, List.set_cons_zero, List.set_cons_succ]
  have HX15 : Hid (Ext w w15) := Lib.hid (HX14.out.drew.trans hx_)
  have HB2_15 := Lib.hid (HB2_14.out.drew.ext hx_)
  clear hx_ hm_ hne_
  go_wp2_with fail
  refine wp_name (fun W => Ext w W ∧ Blk W (w3.heap.size) #[.string (qs d.x), .string (qs d.y)] 24) ⟨HX15.out, HB2_15.out⟩ ?_
  rintro w16 ⟨e16, bB2_16⟩
  have HX16 := Lib.hid e16; have HB2_16 := Lib.hid bB2_16
  clear e16 bB2_16
  refine region_lin [.val (.string (qs (-n.x))), .val (.pointer (some ⟨w3.heap.size, 0, none⟩)), .val (.string (qs d.x)), .val (.string (qs (-n.x * d.x))), .val (.string (qs (-n.y))), .val (.pointer (some ⟨w3.heap.size, 1, none⟩)), .val (.string (qs d.y)), .val (.string (qs (-n.y * d.y))), .val (.string (qs (-n.x * d.x + -n.y * d.y))), .val (.string (qs (-n.x * d.x + -n.y * d.y)))] (by kernel_rfl) (by kernel_rfl) (by kernel_rfl) ?_ (fun g16 w17 hx_ hm_ hne_ => ?_)
  · skip
    refine RnL.cons (fun g16 A_ W_ hs_ => ?_) ?_
    · have q8_ := (hs_.old 8 (by kernel_rfl) : A_.tmps[8]?.getD undef = .string (qs (-n.x)))
      refine Rn.val fun K_ hK_ => ?_
      go_simp
      exact hK_.out _ (Ext.refl _)
    refine RnL.cons (fun g16 A_ W_ hs_ => ?_) ?_
    · have q3_ := (hs_.old 3 (by kernel_rfl) : A_.tmps[3]?.getD undef = .pointer (some ⟨w3.heap.size, 0, none⟩))
      refine Rn.val fun K_ hK_ => ?_
      go_simp
      exact hK_.out _ (Ext.refl _)
    refine RnL.cons (fun g16 A_ W_ hs_ => ?_) ?_
    · have q117_ := hs_.val 1 rfl rfl rfl
      have cB2_0 := ((HB2_16.out.drew.ext hs_.1)).cell 0 rfl
      refine Rn.val fun K_ hK_ => ?_
      go_simp
      exact hK_.out _ (Ext.refl _)
    refine RnL.cons (fun g16 A_ W_ hs_ => ?_) ?_
    · have q116_ := hs_.val 0 rfl rfl rfl
      have q118_ := hs_.val 2 rfl rfl rfl
      refine Rn.val fun K_ hK_ => ?_
      go_simp
      refine (rmul_c (-n.x) d.x _ (HG.out.ext (HX16.out.drew.trans hs_.1)) HN4.out.x.neg HD.out.pb.x (by omega) (by omega)).mono ?_; rintro e W9_ ⟨rfl, e9_⟩; exact hK_.out _ e9_
    refine RnL.cons (fun g16 A_ W_ hs_ => ?_) ?_
    · have q9_ := (hs_.old 9 (by kernel_rfl) : A_.tmps[9]?.getD undef = .string (qs (-n.y)))
      refine Rn.val fun K_ hK_ => ?_
      go_simp
      exact hK_.out _ (Ext.refl _)
    refine RnL.cons (fun g16 A_ W_ hs_ => ?_) ?_
    · have q3_ := (hs_.old 3 (by kernel_rfl) : A_.tmps[3]?.getD undef = .pointer (some ⟨w3.heap.size, 0, none⟩))
      refine Rn.val fun K_ hK_ => ?_
      go_simp
      exact hK_.out _ (Ext.refl _)
    refine RnL.cons (fun g16 A_ W_ hs_ => ?_) ?_
    · have q121_ := hs_.val 5 rfl rfl rfl
      have cB2_1 := ((HB2_16.out.drew.ext hs_.1)).cell 1 rfl
      refine Rn.val fun K_ hK_ => ?_
      go_simp
      exact hK_.out _ (Ext.refl _)
    refine RnL.cons (fun g16 A_ W_ hs_ => ?_) ?_
    · have q120_ := hs_.val 4 rfl rfl rfl
      have q122_ := hs_.val 6 rfl rfl rfl
      refine Rn.val fun K_ hK_ => ?_
      go_simp
      refine (rmul_c (-n.y) d.y _ (HG.out.ext (HX16.out.drew.trans hs_.1)) HN4.out.y.neg HD.out.pb.y (by omega) (by omega)).mono ?_; rintro e W9_ ⟨rfl, e9_⟩; exact hK_.out _ e9_
    refine RnL.cons (fun g16 A_ W_ hs_ => ?_) ?_
    · have q119_ := hs_.val 3 rfl rfl rfl
      have q123_ := hs_.val 7 rfl rfl rfl
      refine Rn.val fun K_ hK_ => ?_
      go_simp
      refine (radd_c (-n.x * d.x) (-n.y * d.y) _ (HG.out.ext (HX16.out.drew.trans hs_.1)) (HN4.out.x.neg.mul HD.out.pb.x) (HN4.out.y.neg.mul HD.out.pb.y) (by omega) (by omega)).mono ?_; rintro e W9_ ⟨rfl, e9_⟩; exact hK_.out _ e9_
    refine RnL.cons (fun g16 A_ W_ hs_ => ?_) ?_
    · have q124_ := hs_.val 8 rfl rfl rfl
      refine Rn.val fun K_ hK_ => ?_
      go_simp
      exact hK_.out _ (Ext.refl _)
    exact RnL.nil
  simp only [fs, Kd.value, puts, Act.put, List.setIfInBounds_toArray, List.set_cons_zero, List.set_cons_succ]
  have HX17 : Hid (Ext w w17) := Lib.hid (HX16.out.drew.trans hx_)
  have HB2_17 := Lib.hid (HB2_16.out.drew.ext hx_)
  clear hx_ hm_ hne_
  go_wp2_with fail
  refine ((HDOT.out ▸ rsign_c (-n.x * d.x + -n.y * d.y) _)).mono ?_; rintro e _ ⟨rfl, rfl⟩
  have c2_0 := HB2_17.out.cell 0 rfl
  have c2_1 := HB2_17.out.cell 1 rfl
  go_wp2_with fail
  refine (lprim_c d.x d.y (w17.heap.size) _ (HG.out.ext (HX17.out.alloc _)) HPB.out.x HPB.out.y HD.out.ix HD.out.iy (Blk.new' (w := _) (cs := #[.string (qs d.x), .string (qs d.y), .string ⟨#[48]⟩]) (t := 22) (by first | rfl | (simp only [World.size_alloc]; done) | (simp only [World.size_alloc]; omega) | simp)) HD.out.gcd).mono ?_; rintro e w18 ⟨rfl, e18⟩
  have HX18 : Hid (Ext w w18) := Lib.hid ((HX17.out.alloc _).trans e18)
  have HB5_18 : Hid (Blk w18 (w17.heap.size) #[.string (qs d.x), .string (qs d.y), .string ⟨#[48]⟩] 22) := Lib.hid (Blk.ext (Blk.new' (w := _) (cs := #[.string (qs d.x), .string (qs d.y), .string ⟨#[48]⟩]) (t := 22) (by first | rfl | (simp only [World.size_alloc]; done) | (simp only [World.size_alloc]; omega) | simp)) e18)
  have HGEB5 : Hid (w.heap.size ≤ w17.heap.size) := Lib.hid (by have := HX17.out.size; first | omega | (simp only []; omega) | (simp; omega))
  clear e18 c2_0 c2_1
  go_wp2
  go_ret
  exact ⟨rfl, HX18.out⟩

set_option maxRecDepth 100000 in
set_option maxHeartbeats 16000000 in
theorem dirs15_p0 (n : V3) (w : World) (g : Gd w) (hsz : [qs n.x, qs n.y, qs n.z].all sz24 = true) (hs : ¬ n.z < 0) (hx0 : n.x ≠ 0) : Calls Tryz.prog 8 #[.agg #[.string (qs n.x), .string (qs n.y), .string (qs n.z)]] w (Ret w (.bool true)) := by
  have HG := Lib.hid g
  clear g
  have HSZ := Lib.hid hsz
  simp only [List.all_cons, List.all_nil, Bool.and_true, Bool.and_eq_true, sz24_true] at hsz
  obtain ⟨s0, s1, s2⟩ := hsz
  have HN4 : Hid (VB 24 n) := Lib.hid ⟨qb_of_size s0, qb_of_size s1, qb_of_size s2⟩
  clear s0 s1 s2
  have hx0_t := qs_not0 hx0
  have hs_d : decide (n.z.num < 0) = false := decide_eq_false (by exact fun e => hs (rnum_neg.1 e))
  have HZ : Hid (¬ (n.x = 0 ∧ n.y = 0 ∧ n.z = 0)) := Lib.hid (fun e => hx0 e.1)
  have HZ2 : Hid (¬ (n.x = 0 ∧ n.y = 0)) := Lib.hid (fun e => hx0 e.1)
  clear hx0
  obtain ⟨d, ed⟩ : ∃ d, todir n = d := ⟨_, rfl⟩
  have HD : Hid (TowOk n 24 d) := Lib.hid (ed ▸ tow_ok (by decide) (by decide) HN4.out HZ2.out)
  have HFX : (flatv n).x = n.x := by unfold flatv; rw [if_neg hs]
  have HFY : (flatv n).y = n.y := by unfold flatv; rw [if_neg hs]
  have hcr : n.x * d.y - n.y * d.x = 0 := by obtain ⟨c, _, e1, e2⟩ := HD.out.scale; rw [e1, e2, HFX, HFY]; grind
  have hcr_t := qs_is0 hcr
  have HDOT : Hid ((n.x * d.x + n.y * d.y).num.sign = 1) := Lib.hid (sgn_of_pos (by obtain ⟨c, hc, e1, e2⟩ := HD.out.scale; rw [e1, e2, HFX, HFY]; have := Rat.mul_pos (sq2_pos HZ2.out) hc; grind))
  have HPB : Hid (PB 200 d) := Lib.hid (HD.out.pb.mono (by decide))
  have HRT : Hid ([qs d.x, qs d.y].all rq = true) := Lib.hid HPB.out.all
  have HL2 : Hid (∀ (i : Nat) (hi : i < [qs d.x, qs d.y].length), ([qs d.x, qs d.y][i]).size ≤ 1000000) := Lib.hid (sizes2 HPB.out.ts.x HPB.out.ts.y)
  have HED := Lib.hid ed; clear ed hs hcr HFX HFY
  go_enter Tryz.func8, Tryz.ntmps8
  go_wp2_with fail
  refine (known15_c _ (HG.out.ext ((Ext.refl w).alloc _))).mono ?_; rintro e w1 ⟨rfl, e1⟩
  have HX1 : Hid (Ext w w1) := Lib.hid (((Ext.refl w).alloc _).trans e1)
  have HB0_1 : Hid (Blk w1 (w.heap.size) #[.string (qs n.x), .string (qs n.y), .string (qs n.z)] 37) := Lib.hid (Blk.ext (Blk.new' (w := _) (cs := #[.string (qs n.x), .string (qs n.y), .string (qs n.z)]) (t := 37) (by first | rfl | (simp only [World.size_alloc]; done) | (simp only [World.size_alloc]; omega) | simp)) e1)
  have HGEB0 : Hid (w.heap.size ≤ w.heap.size) := Lib.hid (by first | omega | (simp only []; omega) | (simp; omega))
  clear e1
  have c0_0 := HB0_1.out.cell 0 rfl
  have c0_1 := HB0_1.out.cell 1 rfl
  have c0_2 := HB0_1.out.cell 2 rfl
  go_wp2_with fail
  refine (short15_b [qs n.x, qs n.y, qs n.z] 3 (w1.heap.size) true _ rfl (by decide) HSZ.out (Blk.new' (w := _) (cs := #[.string (qs n.x), .string (qs n.y), .string (qs n.z)]) (t := 22) (by first | rfl | (simp only [World.size_alloc]; done) | (simp only [World.size_alloc]; omega) | simp))).mono ?_; rintro e w2 ⟨rfl, e2⟩
  have HX2 : Hid (Ext w w2) := Lib.hid ((HX1.out.alloc _).trans e2)
  have HB0_2 : Hid (Blk w2 (w.heap.size) #[.string (qs n.x), .string (qs n.y), .string (qs n.z)] 37) := Lib.hid (Blk.ext (HB0_1.out.alloc _) e2)
  have HB1_2 : Hid (Blk w2 (w1.heap.size) #[.string (qs n.x), .string (qs n.y), .string (qs n.z)] 22) := Lib.hid (Blk.ext (Blk.new' (w := _) (cs := #[.string (qs n.x), .string (qs n.y), .string (qs n.z)]) (t := 22) (by first | rfl | (simp only [World.size_alloc]; done) | (simp only [World.size_alloc]; omega) | simp)) e2)
  have HGEB1 : Hid (w.heap.size ≤ w1.heap.size) := Lib.hid (by have := HX1.out.size; first | omega | (simp only []; omega) | (simp; omega))
  clear e2 c0_0 c0_1 c0_2
  have c0_0 := HB0_2.out.cell 0 rfl
  have c0_1 := HB0_2.out.cell 1 rfl
  have c0_2 := HB0_2.out.cell 2 rfl
  go_wp2_with fail
  refine ((HED.out ▸ atow_ok n _ (HG.out.ext HX2.out) HN4.out HZ2.out)).mono ?_; rintro e w3 ⟨rfl, e3⟩
  have HX3 : Hid (Ext w w3) := Lib.hid (HX2.out.trans e3)
  have HB0_3 := Lib.hid (Blk.ext HB0_2.out e3)
  clear e3 c0_0 c0_1 c0_2
  go_upto_region 4 with fail
  refine wp_name (fun W => Ext w W ∧ Blk W (w.heap.size) #[.string (qs n.x), .string (qs n.y), .string (qs n.z)] 37 ∧ Blk W (w3.heap.size) #[.string (qs d.x), .string (qs d.y)] 24) ⟨(HX3.out.alloc _), (HB0_3.out.alloc _), (Blk.new' (w := _) (cs := #[.string (qs d.x), .string (qs d.y)]) (t := 24) (by first | rfl | (simp only [World.size_alloc]; done) | (simp only [World.size_alloc]; omega) | simp))⟩ ?_
  rintro w4 ⟨e4, bB0_4, bB2_4⟩
  have HX4 := Lib.hid e4; have HB0_4 := Lib.hid bB0_4; have HB2_4 := Lib.hid bB2_4
  have HGEB2 : Hid (w.heap.size ≤ w3.heap.size) := Lib.hid (by have := HX3.out.size; first | omega | (simp only []; omega) | (simp; omega))
  clear e4 bB0_4 bB2_4
  have c0_0 := HB0_4.out.cell 0 rfl
  have c0_1 := HB0_4.out.cell 1 rfl
  have c0_2 := HB0_4.out.cell 2 rfl
  go_wp2_with fail
  refine ((HED.out ▸ astr_ok n _ (HG.out.ext HX4.out) HN4.out HZ2.out)).mono ?_; rintro e w5 ⟨rfl, e5⟩
  have HX5 : Hid (Ext w w5) := Lib.hid (HX4.out.trans e5)
  have HB0_5 := Lib.hid (Blk.ext HB0_4.out e5)
  have HB2_5 := Lib.hid (Blk.ext HB2_4.out e5)
  clear e5 c0_0 c0_1 c0_2
  go_upto_region 5 with fail
  refine wp_name (fun W => Ext w W ∧ Blk W (w.heap.size) #[.string (qs n.x), .string (qs n.y), .string (qs n.z)] 37 ∧ Blk W (w3.heap.size) #[.string (qs d.x), .string (qs d.y)] 24 ∧ Blk W (w5.heap.size) #[.string (qs (-d.y)), .string (qs d.x)] 24) ⟨(HX5.out.alloc _), (HB0_5.out.alloc _), (HB2_5.out.alloc _), (Blk.new' (w := _) (cs := #[.string (qs (-d.y)), .string (qs d.x)]) (t := 24) (by first | rfl | (simp only [World.size_alloc]; done) | (simp only [World.size_alloc]; omega) | simp))⟩ ?_
  rintro w6 ⟨e6, bB0_6, bB2_6, bB3_6⟩
  have HX6 := Lib.hid e6; have HB0_6 := Lib.hid bB0_6; have HB2_6 := Lib.hid bB2_6; have HB3_6 := Lib.hid bB3_6
  have HGEB3 : Hid (w.heap.size ≤ w5.heap.size) := Lib.hid (by have := HX5.out.size; first | omega | (simp only []; omega) | (simp; omega))
  clear e6 bB0_6 bB2_6 bB3_6
  have c0_0 := HB0_6.out.cell 0 rfl
  have c0_1 := HB0_6.out.cell 1 rfl
  have c0_2 := HB0_6.out.cell 2 rfl
  go_wp2_with fail
  refine (lnorm_ok n _ (HG.out.ext HX6.out) (HN4.out.mono (by decide)) HZ.out).mono ?_; rintro e w7 ⟨rfl, e7⟩
  have HX7 : Hid (Ext w w7) := Lib.hid (HX6.out.trans e7)
  have HB0_7 := Lib.hid (Blk.ext HB0_6.out e7)
  have HB2_7 := Lib.hid (Blk.ext HB2_6.out e7)
  have HB3_7 := Lib.hid (Blk.ext HB3_6.out e7)
  clear e7 c0_0 c0_1 c0_2
  have c0_0 := HB0_7.out.cell 0 rfl
  go_wp2_with fail
  refine wp_name (fun W => Ext w W ∧ Blk W (w.heap.size) #[.string (qs n.x), .string (qs n.y), .string (qs n.z)] 37 ∧ Blk W (w3.heap.size) #[.string (qs d.x), .string (qs d.y)] 24 ∧ Blk W (w5.heap.size) #[.string (qs (-d.y)), .string (qs d.x)] 24) ⟨HX7.out, HB0_7.out, HB2_7.out, HB3_7.out⟩ ?_
  rintro w8 ⟨e8, bB0_8, bB2_8, bB3_8⟩
  have HX8 := Lib.hid e8; have HB0_8 := Lib.hid bB0_8; have HB2_8 := Lib.hid bB2_8; have HB3_8 := Lib.hid bB3_8
  clear e8 bB0_8 bB2_8 bB3_8 c0_0
  refine region_lin [.val (.pointer (some ⟨w.heap.size, 0, none⟩)), .val (.string (qs n.x)), .val (.pointer (some ⟨w.heap.size, 1, none⟩)), .val (.string (qs n.y)), .val (.string (qs n.x)), .val (.string (qs n.y))] (by kernel_rfl) (by kernel_rfl) (by kernel_rfl) ?_ (fun g8 w9 hx_ hm_ hne_ => ?_)
  · skip
    refine RnL.cons (fun g8 A_ W_ hs_ => ?_) ?_
    · have q1_ := (hs_.old 1 (by kernel_rfl) : A_.tmps[1]?.getD undef = .pointer (some ⟨w.heap.size, 0, none⟩))
      refine Rn.val fun K_ hK_ => ?_
      go_simp
      exact hK_.out _ (Ext.refl _)
    refine RnL.cons (fun g8 A_ W_ hs_ => ?_) ?_
    · have q70_ := hs_.val 0 rfl rfl rfl
      have cB0_0 := ((HB0_8.out.drew.ext hs_.1)).cell 0 rfl
      refine Rn.val fun K_ hK_ => ?_
      go_simp
      exact hK_.out _ (Ext.refl _)
    refine RnL.cons (fun g8 A_ W_ hs_ => ?_) ?_
    · have q1_ := (hs_.old 1 (by kernel_rfl) : A_.tmps[1]?.getD undef = .pointer (some ⟨w.heap.size, 0, none⟩))
      refine Rn.val fun K_ hK_ => ?_
      go_simp
      exact hK_.out _ (Ext.refl _)
    refine RnL.cons (fun g8 A_ W_ hs_ => ?_) ?_
    · have q72_ := hs_.val 2 rfl rfl rfl
      have cB0_1 := ((HB0_8.out.drew.ext hs_.1)).cell 1 rfl
      refine Rn.val fun K_ hK_ => ?_
      go_simp
      exact hK_.out _ (Ext.refl _)
    refine RnL.cons (fun g8 A_ W_ hs_ => ?_) ?_
    · have q71_ := hs_.val 1 rfl rfl rfl
      refine Rn.val fun K_ hK_ => ?_
      go_simp
      exact hK_.out _ (Ext.refl _)
    refine RnL.cons (fun g8 A_ W_ hs_ => ?_) ?_
    · have q73_ := hs_.val 3 rfl rfl rfl
      refine Rn.val fun K_ hK_ => ?_
      go_simp
      exact hK_.out _ (Ext.refl _)
    exact RnL.nil
  simp only [fs, Kd.value, puts, Act.put, List.setIfInBounds_toArray, List.set_cons_zero, List.set_cons_succ]
  have HX9 : Hid (Ext w w9) := Lib.hid (HX8.out.drew.trans hx_)
  have HB0_9 := Lib.hid (HB0_8.out.drew.ext hx_)
  have HB2_9 := Lib.hid (HB2_8.out.drew.ext hx_)
  have HB3_9 := Lib.hid (HB3_8.out.drew.ext hx_)
  clear hx_ hm_ hne_
  have c0_2 := HB0_9.out.cell 2 rfl
  go_wp2_with fail
  refine (rsign_c n.z _).mono ?_; rintro e _ ⟨rfl, rfl⟩
  clear c0_2
  go_wp2_with fail
  refine wp_name (fun W => Ext w W ∧ Blk W (w3.heap.size) #[.string (qs d.x), .string (qs d.y)] 24 ∧ Blk W (w5.heap.size) #[.string (qs (-d.y)), .string (qs d.x)] 24) ⟨HX9.out, HB2_9.out, HB3_9.out⟩ ?_
  rintro w10 ⟨e10, bB2_10, bB3_10⟩
  have HX10 := Lib.hid e10; have HB2_10 := Lib.hid bB2_10; have HB3_10 := Lib.hid bB3_10
  clear e10 bB2_10 bB3_10
  refine region_lin [.val (.int .i64 0), .val (.bool false), .val (.bool false), .val (.int .i64 0), .val (.bool false), .val (.bool false), .val (.bool false), .val (.pointer (some ⟨w3.heap.size, 0, none⟩)), .val (.string (qs d.x)), .val (.pointer (some ⟨w3.heap.size, 1, none⟩)), .val (.string (qs d.y)), .mem (fun b_ => .slice (some ⟨b_, 0, none⟩) 2 2) #[.string (qs d.x), .string (qs d.y)] 22 Option.none, .val (.bool true), .val (.bool false), .val (.bool false), .val (.bool false), .val (.agg #[.string (qs (-d.y)), .string (qs d.x)]), .val (.pointer (some ⟨w3.heap.size, 1, none⟩)), .val (.string (qs d.y)), .val (.string (qs (-d.y))), .val (.pointer (some ⟨w3.heap.size, 0, none⟩)), .val (.string (qs d.x)), .val (.agg #[.string (qs (-d.y)), .string (qs d.x)]), .val (.bool false), .val (.bool false)] (by kernel_rfl) (by kernel_rfl) (by kernel_rfl) ?_ (fun g10 w11 hx_ hm_ hne_ => ?_)
  · skip
    refine RnL.cons (fun g10 A_ W_ hs_ => ?_) ?_
    · have q4_ := (hs_.old 4 (by kernel_rfl) : A_.tmps[4]?.getD undef = .int .i64 0)
      refine Rn.val fun K_ hK_ => ?_
      go_simp
      exact hK_.out _ (Ext.refl _)
    refine RnL.cons (fun g10 A_ W_ hs_ => ?_) ?_
    · have q82_ := hs_.val 0 rfl rfl rfl
      refine Rn.val fun K_ hK_ => ?_
      go_simp
      exact hK_.out _ (Ext.refl _)
    refine RnL.cons (fun g10 A_ W_ hs_ => ?_) ?_
    · have q83_ := hs_.val 1 rfl rfl rfl
      refine Rn.val fun K_ hK_ => ?_
      go_simp
      exact hK_.out _ (Ext.refl _)
    refine RnL.cons (fun g10 A_ W_ hs_ => ?_) ?_
    · have q6_ := (hs_.old 6 (by kernel_rfl) : A_.tmps[6]?.getD undef = .int .i64 0)
      refine Rn.val fun K_ hK_ => ?_
      go_simp
      exact hK_.out _ (Ext.refl _)
    refine RnL.cons (fun g10 A_ W_ hs_ => ?_) ?_
    · have q85_ := hs_.val 3 rfl rfl rfl
      refine Rn.val fun K_ hK_ => ?_
      go_simp
      exact hK_.out _ (Ext.refl _)
    refine RnL.cons (fun g10 A_ W_ hs_ => ?_) ?_
    · have q84_ := hs_.val 2 rfl rfl rfl
      have q86_ := hs_.val 4 rfl rfl rfl
      refine Rn.val fun K_ hK_ => ?_
      go_simp
      exact hK_.out _ (Ext.refl _)
    refine RnL.cons (fun g10 A_ W_ hs_ => ?_) ?_
    · have q87_ := hs_.val 5 rfl rfl rfl
      refine Rn.val fun K_ hK_ => ?_
      go_simp
      exact hK_.out _ (Ext.refl _)
    refine RnL.cons (fun g10 A_ W_ hs_ => ?_) ?_
    · have q3_ := (hs_.old 3 (by kernel_rfl) : A_.tmps[3]?.getD undef = .pointer (some ⟨w3.heap.size, 0, none⟩))
      refine Rn.val fun K_ hK_ => ?_
      go_simp
      exact hK_.out _ (Ext.refl _)
    refine RnL.cons (fun g10 A_ W_ hs_ => ?_) ?_
    · have q89_ := hs_.val 7 rfl rfl rfl
      have cB2_0 := ((HB2_10.out.drew.ext hs_.1)).cell 0 rfl
      refine Rn.val fun K_ hK_ => ?_
      go_simp
      exact hK_.out _ (Ext.refl _)
    refine RnL.cons (fun g10 A_ W_ hs_ => ?_) ?_
    · have q3_ := (hs_.old 3 (by kernel_rfl) : A_.tmps[3]?.getD undef = .pointer (some ⟨w3.heap.size, 0, none⟩))
      refine Rn.val fun K_ hK_ => ?_
      go_simp
      exact hK_.out _ (Ext.refl _)
    refine RnL.cons (fun g10 A_ W_ hs_ => ?_) ?_
    · have q91_ := hs_.val 9 rfl rfl rfl
      have cB2_1 := ((HB2_10.out.drew.ext hs_.1)).cell 1 rfl
      refine Rn.val fun K_ hK_ => ?_
      go_simp
      exact hK_.out _ (Ext.refl _)
    refine RnL.cons (fun g10 A_ W_ hs_ => ?_) ?_
    · have q90_ := hs_.val 8 rfl rfl rfl
      have q92_ := hs_.val 10 rfl rfl rfl
      refine Rn.mem fun K_ hK_ => ?_
      go_simp
      exact hK_.out
    refine RnL.cons (fun g10 A_ W_ hs_ => ?_) ?_
    · have q93_ := (hs_.mem 11 rfl rfl rfl).1
      refine Rn.val fun K_ hK_ => ?_
      go_simp
      refine (right15_b [qs d.x, qs d.y] 2 (g10 11) true _ (HG.out.ext (HX10.out.drew.trans hs_.1)) rfl (by decide) HL2.out HRT.out ((hs_.mem 11 rfl rfl rfl).2.2 rfl)).mono ?_; rintro e W9_ ⟨rfl, e9_⟩; exact hK_.out _ e9_
    refine RnL.cons (fun g10 A_ W_ hs_ => ?_) ?_
    · have q94_ := hs_.val 12 rfl rfl rfl
      refine Rn.val fun K_ hK_ => ?_
      go_simp
      exact hK_.out _ (Ext.refl _)
    refine RnL.cons (fun g10 A_ W_ hs_ => ?_) ?_
    · have q88_ := hs_.val 6 rfl rfl rfl
      have q95_ := hs_.val 13 rfl rfl rfl
      refine Rn.val fun K_ hK_ => ?_
      go_simp
      exact hK_.out _ (Ext.refl _)
    refine RnL.cons (fun g10 A_ W_ hs_ => ?_) ?_
    · have q96_ := hs_.val 14 rfl rfl rfl
      refine Rn.val fun K_ hK_ => ?_
      go_simp
      exact hK_.out _ (Ext.refl _)
    refine RnL.cons (fun g10 A_ W_ hs_ => ?_) ?_
    · have q5_ := (hs_.old 5 (by kernel_rfl) : A_.tmps[5]?.getD undef = .pointer (some ⟨w5.heap.size, 0, none⟩))
      have cB3_0 := ((HB3_10.out.drew.ext hs_.1)).cell 0 rfl
      have cB3_1 := ((HB3_10.out.drew.ext hs_.1)).cell 1 rfl
      refine Rn.val fun K_ hK_ => ?_
      go_simp
      exact hK_.out _ (Ext.refl _)
    refine RnL.cons (fun g10 A_ W_ hs_ => ?_) ?_
    · have q3_ := (hs_.old 3 (by kernel_rfl) : A_.tmps[3]?.getD undef = .pointer (some ⟨w3.heap.size, 0, none⟩))
      refine Rn.val fun K_ hK_ => ?_
      go_simp
      exact hK_.out _ (Ext.refl _)
    refine RnL.cons (fun g10 A_ W_ hs_ => ?_) ?_
    · have q99_ := hs_.val 17 rfl rfl rfl
      have cB2_1 := ((HB2_10.out.drew.ext hs_.1)).cell 1 rfl
      refine Rn.val fun K_ hK_ => ?_
      go_simp
      exact hK_.out _ (Ext.refl _)
    refine RnL.cons (fun g10 A_ W_ hs_ => ?_) ?_
    · have q100_ := hs_.val 18 rfl rfl rfl
      refine Rn.val fun K_ hK_ => ?_
      go_simp
      refine (rneg_c d.y _ HD.out.pb.y (by omega)).mono ?_; rintro e W9_ ⟨rfl, e9_⟩; exact hK_.out _ e9_
    refine RnL.cons (fun g10 A_ W_ hs_ => ?_) ?_
    · have q3_ := (hs_.old 3 (by kernel_rfl) : A_.tmps[3]?.getD undef = .pointer (some ⟨w3.heap.size, 0, none⟩))
      refine Rn.val fun K_ hK_ => ?_
      go_simp
      exact hK_.out _ (Ext.refl _)
    refine RnL.cons (fun g10 A_ W_ hs_ => ?_) ?_
    · have q102_ := hs_.val 20 rfl rfl rfl
      have cB2_0 := ((HB2_10.out.drew.ext hs_.1)).cell 0 rfl
      refine Rn.val fun K_ hK_ => ?_
      go_simp
      exact hK_.out _ (Ext.refl _)
    refine RnL.cons (fun g10 A_ W_ hs_ => ?_) ?_
    · have q101_ := hs_.val 19 rfl rfl rfl
      have q103_ := hs_.val 21 rfl rfl rfl
      refine Rn.val fun K_ hK_ => ?_
      go_simp
      exact hK_.out _ (Ext.refl _)
    refine RnL.cons (fun g10 A_ W_ hs_ => ?_) ?_
    · have q98_ := hs_.val 16 rfl rfl rfl
      have q104_ := hs_.val 22 rfl rfl rfl
      refine Rn.val fun K_ hK_ => ?_
      go_simp
      exact hK_.out _ (Ext.refl _)
    refine RnL.cons (fun g10 A_ W_ hs_ => ?_) ?_
    · have q97_ := hs_.val 15 rfl rfl rfl
      have q105_ := hs_.val 23 rfl rfl rfl
      refine Rn.val fun K_ hK_ => ?_
      go_simp
      exact hK_.out _ (Ext.refl _)
    exact RnL.nil
  simp only [fs, Kd.value, puts, Act.put, List.setIfInBounds_toArray, List.set_cons_zero, List.set_cons_succ, Nat.reduceAdd]
  have HX11 : Hid (Ext w w11) := Lib.hid (HX10.out.drew.trans hx_)
  have HB2_11 := Lib.hid (HB2_10.out.drew.ext hx_)
  have HB4_11 : Hid (Blk w11 (g10 11) #[.string (qs d.x), .string (qs d.y)] 22) := Lib.hid (hm_ 11 _ _ _ _ rfl).2; have HGEB4 : Hid (w.heap.size ≤ g10 11) := Lib.hid (Nat.le_trans HX10.out.size (hm_ 11 _ _ _ _ rfl).1)
  have HNEB2B4 : Hid (w3.heap.size ≠ g10 11) := Lib.hid (Nat.ne_of_lt (Nat.lt_of_lt_of_le HB2_10.out.lt (hm_ 11 _ _ _ _ rfl).1))
  clear hx_ hm_ hne_
  generalize g10 11 = i4 at *
  clear g10
  go_wp2_with fail
  refine wp_name (fun W => Ext w W ∧ Blk W (w3.heap.size) #[.string (qs d.x), .string (qs d.y)] 24) ⟨HX11.out, HB2_11.out⟩ ?_
  rintro w12 ⟨e12, bB2_12⟩
  have HX12 := Lib.hid e12; have HB2_12 := Lib.hid bB2_12
  clear e12 bB2_12
  refine region_lin [.val (.string (qs n.x)), .val (.pointer (some ⟨w3.heap.size, 1, none⟩)), .val (.string (qs d.y)), .val (.string (qs (n.x * d.y))), .val (.string (qs n.y)), .val (.pointer (some ⟨w3.heap.size, 0, none⟩)), .val (.string (qs d.x)), .val (.string (qs (n.y * d.x))), .val (.string (qs (n.x * d.y - n.y * d.x))), .val (.string (qs (n.x * d.y - n.y * d.x)))] (by kernel_rfl) (by kernel_rfl) (by kernel_rfl) ?_ (fun g12 w13 hx_ hm_ hne_ => ?_)
  · skip
    refine RnL.cons (fun g12 A_ W_ hs_ => ?_) ?_
    · have q8_ := (hs_.old 8 (by kernel_rfl) : A_.tmps[8]?.getD undef = .string (qs n.x))
      refine Rn.val fun K_ hK_ => ?_
      go_simp
      exact hK_.out _ (Ext.refl _)
    refine RnL.cons (fun g12 A_ W_ hs_ => ?_) ?_
    · have q3_ := (hs_.old 3 (by kernel_rfl) : A_.tmps[3]?.getD undef = .pointer (some ⟨w3.heap.size, 0, none⟩))
      refine Rn.val fun K_ hK_ => ?_
      go_simp
      exact hK_.out _ (Ext.refl _)
    refine RnL.cons (fun g12 A_ W_ hs_ => ?_) ?_
    · have q108_ := hs_.val 1 rfl rfl rfl
      have cB2_1 := ((HB2_12.out.drew.ext hs_.1)).cell 1 rfl
      refine Rn.val fun K_ hK_ => ?_
      go_simp
      exact hK_.out _ (Ext.refl _)
    refine RnL.cons (fun g12 A_ W_ hs_ => ?_) ?_
    · have q107_ := hs_.val 0 rfl rfl rfl
      have q109_ := hs_.val 2 rfl rfl rfl
      refine Rn.val fun K_ hK_ => ?_
      go_simp
      refine (rmul_c n.x d.y _ (HG.out.ext (HX12.out.drew.trans hs_.1)) HN4.out.x HD.out.pb.y (by omega) (by omega)).mono ?_; rintro e W9_ ⟨rfl, e9_⟩; exact hK_.out _ e9_
    refine RnL.cons (fun g12 A_ W_ hs_ => ?_) ?_
    · have q9_ := (hs_.old 9 (by kernel_rfl) : A_.tmps[9]?.getD undef = .string (qs n.y))
      refine Rn.val fun K_ hK_ => ?_
      go_simp
      exact hK_.out _ (Ext.refl _)
    refine RnL.cons (fun g12 A_ W_ hs_ => ?_) ?_
    · have q3_ := (hs_.old 3 (by kernel_rfl) : A_.tmps[3]?.getD undef = .pointer (some ⟨w3.heap.size, 0, none⟩))
      refine Rn.val fun K_ hK_ => ?_
      go_simp
      exact hK_.out _ (Ext.refl _)
    refine RnL.cons (fun g12 A_ W_ hs_ => ?_) ?_
    · have q112_ := hs_.val 5 rfl rfl rfl
      have cB2_0 := ((HB2_12.out.drew.ext hs_.1)).cell 0 rfl
      refine Rn.val fun K_ hK_ => ?_
      go_simp
      exact hK_.out _ (Ext.refl _)
    refine RnL.cons (fun g12 A_ W_ hs_ => ?_) ?_
    · have q111_ := hs_.val 4 rfl rfl rfl
      have q113_ := hs_.val 6 rfl rfl rfl
      refine Rn.val fun K_ hK_ => ?_
      go_simp
      refine (rmul_c n.y d.x _ (HG.out.ext (HX12.out.drew.trans hs_.1)) HN4.out.y HD.out.pb.x (by omega) (by omega)).mono ?_; rintro e W9_ ⟨rfl, e9_⟩; exact hK_.out _ e9_
    refine RnL.cons (fun g12 A_ W_ hs_ => ?_) ?_
    · have q110_ := hs_.val 3 rfl rfl rfl
      have q114_ := hs_.val 7 rfl rfl rfl
      refine Rn.val fun K_ hK_ => ?_
      go_simp
      refine (rsub_c (n.x * d.y) (n.y * d.x) _ (HG.out.ext (HX12.out.drew.trans hs_.1)) (HN4.out.x.mul HD.out.pb.y) (HN4.out.y.mul HD.out.pb.x) (by omega) (by omega)).mono ?_; rintro e W9_ ⟨rfl, e9_⟩; exact hK_.out _ e9_
    refine RnL.cons (fun g12 A_ W_ hs_ => ?_) ?_
    · have q115_ := hs_.val 8 rfl rfl rfl
      refine Rn.val fun K_ hK_ => ?_
      go_simp
      exact hK_.out _ (Ext.refl _)
    exact RnL.nil
  simp only [fs, Kd.value, puts, Act.put, List.setIfInBounds_toArray, List.set_cons_zero, List.set_cons_succ]
  have HX13 : Hid (Ext w w13) := Lib.hid (HX12.out.drew.trans hx_)
  have HB2_13 := Lib.hid (HB2_12.out.drew.ext hx_)
  clear hx_ hm_ hne_
  go_wp2_with fail
  refine wp_name (fun W => Ext w W ∧ Blk W (w3.heap.size) #[.string (qs d.x), .string (qs d.y)] 24) ⟨HX13.out, HB2_13.out⟩ ?_
  rintro w14 ⟨e14, bB2_14⟩
  have HX14 := Lib.hid e14; have HB2_14 := Lib.hid bB2_14
  clear e14 bB2_14
  refine region_lin [.val (.string (qs n.x)), .val (.pointer (some ⟨w3.heap.size, 0, none⟩)), .val (.string (qs d.x)), .val (.string (qs (n.x * d.x))), .val (.string (qs n.y)), .val (.pointer (some ⟨w3.heap.size, 1, none⟩)), .val (.string (qs d.y)), .val (.string (qs (n.y * d.y))), .val (.string (qs (n.x * d.x + n.y * d.y))), .val (.string (qs (n.x * d.x + n.y * d.y)))] (by kernel_rfl) (by kernel_rfl) (by kernel_rfl) ?_ (fun g14 w15 hx_ hm_ hne_ => ?_)
  · skip
    refine RnL.cons (fun g14 A_ W_ hs_ => ?_) ?_
    · have q8_ := (hs_.old 8 (by kernel_rfl) : A_.tmps[8]?.getD undef = .string (qs n.x))
      refine Rn.val fun K_ hK_ => ?_
      go_simp
      exact hK_.out _ (Ext.refl _)
    refine RnL.cons (fun g14 A_ W_ hs_ => ?_) ?_
    · have q3_ := (hs_.old 3 (by kernel_rfl) : A_.tmps[3]?.getD undef = .pointer (some ⟨w3.heap.size, 0, none⟩))
      refine Rn.val fun K_ hK_ => ?_
      go_simp
      exact hK_.out _ (Ext.refl _)
    refine RnL.cons (fun g14 A_ W_ hs_ => ?_) ?_
    · have q117_ := hs_.val 1 rfl rfl rfl
      have cB2_0 := ((HB2_14.out.drew.ext hs_.1)).cell 0 rfl
      refine Rn.val fun K_ hK_ => ?_
      go_simp
      exact hK_.out _ (Ext.refl _)
    refine RnL.cons (fun g14 A_ W_ hs_ => ?_) ?_
    · have q116_ := hs_.val 0 rfl rfl rfl
      have q118_ := hs_.val 2 rfl rfl rfl
      refine Rn.val fun K_ hK_ => ?_
      go_simp
      refine (rmul_c n.x d.x _ (HG.out.ext (HX14.out.drew.trans hs_.1)) HN4.out.x HD.out.pb.x (by omega) (by omega)).mono ?_; rintro e W9_ ⟨rfl, e9_⟩; exact hK_.out _ e9_
    refine RnL.cons (fun g14 A_ W_ hs_ => ?_) ?_
    · have q9_ := (hs_.old 9 (by kernel_rfl) : A_.tmps[9]?.getD undef = .string (qs n.y))
      refine Rn.val fun K_ hK_ => ?_
      go_simp
      exact hK_.out _ (Ext.refl _)
    refine RnL.cons (fun g14 A_ W_ hs_ => ?_) ?_
    · have q3_ := (hs_.old 3 (by kernel_rfl) : A_.tmps[3]?.getD undef = .pointer (some ⟨w3.heap.size, 0, none⟩))
      refine Rn.val fun K_ hK_ => ?_
      go_simp
      exact hK_.out _ (Ext.refl _)
    refine RnL.cons (fun g14 A_ W_ hs_ => ?_) ?_
    · have q121_ := hs_.val 5 rfl rfl rfl
      have cB2_1 := ((HB2_14.out.drew.ext hs_.1)).cell 1 rfl
      refine Rn.val fun K_ hK_ => ?_
      go_simp
      exact hK_.out _ (Ext.refl _)
    refine RnL.cons (fun g14 A_ W_ hs_ => ?_) ?_
    · have q120_ := hs_.val 4 rfl rfl rfl
      have q122_ := hs_.val 6 rfl rfl rfl
      refine Rn.val fun K_ hK_ => ?_
      go_simp
      refine (rmul_c n.y d.y _ (HG.out.ext (HX14.out.drew.trans hs_.1)) HN4.out.y HD.out.pb.y (by omega) (by omega)).mono ?_; rintro e W9_ ⟨rfl, e9_⟩; exact hK_.out _ e9_
    refine RnL.cons (fun g14 A_ W_ hs_ => ?_) ?_
    · have q119_ := hs_.val 3 rfl rfl rfl
      have q123_ := hs_.val 7 rfl rfl rfl
      refine Rn.val fun K_ hK_ => ?_
      go_simp
      refine (radd_c (n.x * d.x) (n.y * d.y) _ (HG.out.ext (HX14.out.drew.trans hs_.1)) (HN4.out.x.mul HD.out.pb.x) (HN4.out.y.mul HD.out.pb.y) (by omega) (by omega)).mono ?_; rintro e W9_ ⟨rfl, e9_⟩; exact hK_.out _ e9_
    refine RnL.cons (fun g14 A_ W_ hs_ => ?_) ?_
    · have q124_ := hs_.val 8 rfl rfl rfl
      refine Rn.val fun K_ hK_ => ?_
      go_simp
      exact hK_.out _ (Ext.refl _)
    exact RnL.nil
  simp only [fs, Kd.value, puts, Act.put, List.setIfInBounds_toArray, List.set_cons_zero, List.set_cons_succ]
  have HX15 : Hid (Ext w w15) := Lib.hid (HX14.out.drew.trans hx_)
  have HB2_15 := Lib.hid (HB2_14.out.drew.ext hx_)
  clear hx_ hm_ hne_
  go_wp2_with fail
  refine ((HDOT.out ▸ rsign_c (n.x * d.x + n.y * d.y) _)).mono ?_; rintro e _ ⟨rfl, rfl⟩
  have c2_0 := HB2_15.out.cell 0 rfl
  have c2_1 := HB2_15.out.cell 1 rfl
  go_wp2_with fail
  refine (lprim_c d.x d.y (w15.heap.size) _ (HG.out.ext (HX15.out.alloc _)) HPB.out.x HPB.out.y HD.out.ix HD.out.iy (Blk.new' (w := _) (cs := #[.string (qs d.x), .string (qs d.y), .string ⟨#[48]⟩]) (t := 22) (by first | rfl | (simp only [World.size_alloc]; done) | (simp only [World.size_alloc]; omega) | simp)) HD.out.gcd).mono ?_; rintro e w16 ⟨rfl, e16⟩
  have HX16 : Hid (Ext w w16) := Lib.hid ((HX15.out.alloc _).trans e16)
  have HB5_16 : Hid (Blk w16 (w15.heap.size) #[.string (qs d.x), .string (qs d.y), .string ⟨#[48]⟩] 22) := Lib.hid (Blk.ext (Blk.new' (w := _) (cs := #[.string (qs d.x), .string (qs d.y), .string ⟨#[48]⟩]) (t := 22) (by first | rfl | (simp only [World.size_alloc]; done) | (simp only [World.size_alloc]; omega) | simp)) e16)
  have HGEB5 : Hid (w.heap.size ≤ w15.heap.size) := Lib.hid (by have := HX15.out.size; first | omega | (simp only []; omega) | (simp; omega))
  clear e16 c2_0 c2_1
  go_wp2
  go_ret
  exact ⟨rfl, HX16.out⟩

set_option maxRecDepth 100000 in
set_option maxHeartbeats 16000000 in
theorem dirs15_p1 (n : V3) (w : World) (g : Gd w) (hsz : [qs n.x, qs n.y, qs n.z].all sz24 = true) (hs : ¬ n.z < 0) (hx0 : n.x = 0) (hy0 : n.y ≠ 0) : Calls Tryz.prog 8 #[.agg #[.string (qs n.x), .string (qs n.y), .string (qs n.z)]] w (Ret w (.bool true)) := by
  have HG := Lib.hid g
  clear g
  have HSZ := Lib.hid hsz
  simp only [List.all_cons, List.all_nil, Bool.and_true, Bool.and_eq_true, sz24_true] at hsz
  obtain ⟨s0, s1, s2⟩ := hsz
  have HN4 : Hid (VB 24 n) := Lib.hid ⟨qb_of_size s0, qb_of_size s1, qb_of_size s2⟩
  clear s0 s1 s2
  have hx0_t := qs_is0 hx0
  have hy0_t := qs_not0 hy0
  have hs_d : decide (n.z.num < 0) = false := decide_eq_false (by exact fun e => hs (rnum_neg.1 e))
  have HZ : Hid (¬ (n.x = 0 ∧ n.y = 0 ∧ n.z = 0)) := Lib.hid (fun e => hy0 e.2.1)
  have HZ2 : Hid (¬ (n.x = 0 ∧ n.y = 0)) := Lib.hid (fun e => hy0 e.2)
  clear hx0 hy0
  obtain ⟨d, ed⟩ : ∃ d, todir n = d := ⟨_, rfl⟩
  have HD : Hid (TowOk n 24 d) := Lib.hid (ed ▸ tow_ok (by decide) (by decide) HN4.out HZ2.out)
  have HFX : (flatv n).x = n.x := by unfold flatv; rw [if_neg hs]
  have HFY : (flatv n).y = n.y := by unfold flatv; rw [if_neg hs]
  have hcr : n.x * d.y - n.y * d.x = 0 := by obtain ⟨c, _, e1, e2⟩ := HD.out.scale; rw [e1, e2, HFX, HFY]; grind
  have hcr_t := qs_is0 hcr
  have HDOT : Hid ((n.x * d.x + n.y * d.y).num.sign = 1) := Lib.hid (sgn_of_pos (by obtain ⟨c, hc, e1, e2⟩ := HD.out.scale; rw [e1, e2, HFX, HFY]; have := Rat.mul_pos (sq2_pos HZ2.out) hc; grind))
  have HPB : Hid (PB 200 d) := Lib.hid (HD.out.pb.mono (by decide))
  have HRT : Hid ([qs d.x, qs d.y].all rq = true) := Lib.hid HPB.out.all
  have HL2 : Hid (∀ (i : Nat) (hi : i < [qs d.x, qs d.y].length), ([qs d.x, qs d.y][i]).size ≤ 1000000) := Lib.hid (sizes2 HPB.out.ts.x HPB.out.ts.y)
  have HED := Lib.hid ed; clear ed hs hcr HFX HFY
  go_enter Tryz.func8, Tryz.ntmps8
  go_wp2_with fail
  refine (known15_c _ (HG.out.ext ((Ext.refl w).alloc _))).mono ?_; rintro e w1 ⟨rfl, e1⟩
  have HX1 : Hid (Ext w w1) := Lib.hid (((Ext.refl w).alloc _).trans e1)
  have HB0_1 : Hid (Blk w1 (w.heap.size) #[.string (qs n.x), .string (qs n.y), .string (qs n.z)] 37) := Lib.hid (Blk.ext (Blk.new' (w := _) (cs := #[.string (qs n.x), .string (qs n.y), .string (qs n.z)]) (t := 37) (by first | rfl | (simp only [World.size_alloc]; done) | (simp only [World.size_alloc]; omega) | simp)) e1)
  have HGEB0 : Hid (w.heap.size ≤ w.heap.size) := Lib.hid (by first | omega | (simp only []; omega) | (simp; omega))
  clear e1
  have c0_0 := HB0_1.out.cell 0 rfl
  have c0_1 := HB0_1.out.cell 1 rfl
  have c0_2 := HB0_1.out.cell 2 rfl
  go_wp2_with fail
  refine (short15_b [qs n.x, qs n.y, qs n.z] 3 (w1.heap.size) true _ rfl (by decide) HSZ.out (Blk.new' (w := _) (cs := #[.string (qs n.x), .string (qs n.y), .string (qs n.z)]) (t := 22) (by first | rfl | (simp only [World.size_alloc]; done) | (simp only [World.size_alloc]; omega) | simp))).mono ?_; rintro e w2 ⟨rfl, e2⟩
  have HX2 : Hid (Ext w w2) := Lib.hid ((HX1.out.alloc _).trans e2)
  have HB0_2 : Hid (Blk w2 (w.heap.size) #[.string (qs n.x), .string (qs n.y), .string (qs n.z)] 37) := Lib.hid (Blk.ext (HB0_1.out.alloc _) e2)
  have HB1_2 : Hid (Blk w2 (w1.heap.size) #[.string (qs n.x), .string (qs n.y), .string (qs n.z)] 22) := Lib.hid (Blk.ext (Blk.new' (w := _) (cs := #[.string (qs n.x), .string (qs n.y), .string (qs n.z)]) (t := 22) (by first | rfl | (simp only [World.size_alloc]; done) | (simp only [World.size_alloc]; omega) | simp)) e2)
  have HGEB1 : Hid (w.heap.size ≤ w1.heap.size) := Lib.hid (by have := HX1.out.size; first | omega | (simp only []; omega) | (simp; omega))
  clear e2 c0_0 c0_1 c0_2
  have c0_0 := HB0_2.out.cell 0 rfl
  have c0_1 := HB0_2.out.cell 1 rfl
  have c0_2 := HB0_2.out.cell 2 rfl
  go_wp2_with fail
  refine ((HED.out ▸ atow_ok n _ (HG.out.ext HX2.out) HN4.out HZ2.out)).mono ?_; rintro e w3 ⟨rfl, e3⟩
  have HX3 : Hid (Ext w w3) := Lib.hid (HX2.out.trans e3)
  have HB0_3 := Lib.hid (Blk.ext HB0_2.out e3)
  clear e3 c0_0 c0_1 c0_2
  go_upto_region 4 with fail
  refine wp_name (fun W => Ext w W ∧ Blk W (w.heap.size) #[.string (qs n.x), .string (qs n.y), .string (qs n.z)] 37 ∧ Blk W (w3.heap.size) #[.string (qs d.x), .string (qs d.y)] 24) ⟨(HX3.out.alloc _), (HB0_3.out.alloc _), (Blk.new' (w := _) (cs := #[.string (qs d.x), .string (qs d.y)]) (t := 24) (by first | rfl | (simp only [World.size_alloc]; done) | (simp only [World.size_alloc]; omega) | simp))⟩ ?_
  rintro w4 ⟨e4, bB0_4, bB2_4⟩
  have HX4 := Lib.hid e4; have HB0_4 := Lib.hid bB0_4; have HB2_4 := Lib.hid bB2_4
  have HGEB2 : Hid (w.heap.size ≤ w3.heap.size) := Lib.hid (by have := HX3.out.size; first | omega | (simp only []; omega) | (simp; omega))
  clear e4 bB0_4 bB2_4
  have c0_0 := HB0_4.out.cell 0 rfl
  have c0_1 := HB0_4.out.cell 1 rfl
  have c0_2 := HB0_4.out.cell 2 rfl
  go_wp2_with fail
  refine ((HED.out ▸ astr_ok n _ (HG.out.ext HX4.out) HN4.out HZ2.out)).mono ?_; rintro e w5 ⟨rfl, e5⟩
  have HX5 : Hid (Ext w w5) := Lib.hid (HX4.out.trans e5)
  have HB0_5 := Lib.hid (Blk.ext HB0_4.out e5)
  have HB2_5 := Lib.hid (Blk.ext HB2_4.out e5)
  clear e5 c0_0 c0_1 c0_2
  go_upto_region 5 with fail
  refine wp_name (fun W => Ext w W ∧ Blk W (w.heap.size) #[.string (qs n.x), .string (qs n.y), .string (qs n.z)] 37 ∧ Blk W (w3.heap.size) #[.string (qs d.x), .string (qs d.y)] 24 ∧ Blk W (w5.heap.size) #[.string (qs (-d.y)), .string (qs d.x)] 24) ⟨(HX5.out.alloc _), (HB0_5.out.alloc _), (HB2_5.out.alloc _), (Blk.new' (w := _) (cs := #[.string (qs (-d.y)), .string (qs d.x)]) (t := 24) (by first | rfl | (simp only [World.size_alloc]; done) | (simp only [World.size_alloc]; omega) | simp))⟩ ?_
  rintro w6 ⟨e6, bB0_6, bB2_6, bB3_6⟩
  have HX6 := Lib.hid e6; have HB0_6 := Lib.hid bB0_6; have HB2_6 := Lib.hid bB2_6; have HB3_6 := Lib.hid bB3_6
  have HGEB3 : Hid (w.heap.size ≤ w5.heap.size) := Lib.hid (by have := HX5.out.size; first | omega | (simp only []; omega) | (simp; omega))
  clear e6 bB0_6 bB2_6 bB3_6
  have c0_0 := HB0_6.out.cell 0 rfl
  have c0_1 := HB0_6.out.cell 1 rfl
  have c0_2 := HB0_6.out.cell 2 rfl
  go_wp2_with fail
  refine (lnorm_ok n _ (HG.out.ext HX6.out) (HN4.out.mono (by decide)) HZ.out).mono ?_; rintro e w7 ⟨rfl, e7⟩
  have HX7 : Hid (Ext w w7) := Lib.hid (HX6.out.trans e7)
  have HB0_7 := Lib.hid (Blk.ext HB0_6.out e7)
  have HB2_7 := Lib.hid (Blk.ext HB2_6.out e7)
  have HB3_7 := Lib.hid (Blk.ext HB3_6.out e7)
  clear e7 c0_0 c0_1 c0_2
  have c0_0 := HB0_7.out.cell 0 rfl
  have c0_1 := HB0_7.out.cell 1 rfl
  go_wp2_with fail
  refine wp_name (fun W => Ext w W ∧ Blk W (w.heap.size) #[.string (qs n.x), .string (qs n.y), .string (qs n.z)] 37 ∧ Blk W (w3.heap.size) #[.string (qs d.x), .string (qs d.y)] 24 ∧ Blk W (w5.heap.size) #[.string (qs (-d.y)), .string (qs d.x)] 24) ⟨HX7.out, HB0_7.out, HB2_7.out, HB3_7.out⟩ ?_
  rintro w8 ⟨e8, bB0_8, bB2_8, bB3_8⟩
  have HX8 := Lib.hid e8; have HB0_8 := Lib.hid bB0_8; have HB2_8 := Lib.hid bB2_8; have HB3_8 := Lib.hid bB3_8
  clear e8 bB0_8 bB2_8 bB3_8 c0_0 c0_1
  refine region_lin [.val (.pointer (some ⟨w.heap.size, 0, none⟩)), .val (.string (qs n.x)), .val (.pointer (some ⟨w.heap.size, 1, none⟩)), .val (.string (qs n.y)), .val (.string (qs n.x)), .val (.string (qs n.y))] (by kernel_rfl) (by kernel_rfl) (by kernel_rfl) ?_ (fun g8 w9 hx_ hm_ hne_ => ?_)
  · skip
    refine RnL.cons (fun g8 A_ W_ hs_ => ?_) ?_
    · have q1_ := (hs_.old 1 (by kernel_rfl) : A_.tmps[1]?.getD undef = .pointer (some ⟨w.heap.size, 0, none⟩))
      refine Rn.val fun K_ hK_ => ?_
      go_simp
      exact hK_.out _ (Ext.refl _)
    refine RnL.cons (fun g8 A_ W_ hs_ => ?_) ?_
    · have q70_ := hs_.val 0 rfl rfl rfl
      have cB0_0 := ((HB0_8.out.drew.ext hs_.1)).cell 0 rfl
      refine Rn.val fun K_ hK_ => ?_
      go_simp
      exact hK_.out _ (Ext.refl _)
    refine RnL.cons (fun g8 A_ W_ hs_ => ?_) ?_
    · have q1_ := (hs_.old 1 (by kernel_rfl) : A_.tmps[1]?.getD undef = .pointer (some ⟨w.heap.size, 0, none⟩))
      refine Rn.val fun K_ hK_ => ?_
      go_simp
      exact hK_.out _ (Ext.refl _)
    refine RnL.cons (fun g8 A_ W_ hs_ => ?_) ?_
    · have q72_ := hs_.val 2 rfl rfl rfl
      have cB0_1 := ((HB0_8.out.drew.ext hs_.1)).cell 1 rfl
      refine Rn.val fun K_ hK_ => ?_
      go_simp
      exact hK_.out _ (Ext.refl _)
    refine RnL.cons (fun g8 A_ W_ hs_ => ?_) ?_
    · have q71_ := hs_.val 1 rfl rfl rfl
      refine Rn.val fun K_ hK_ => ?_
      go_simp
      exact hK_.out _ (Ext.refl _)
    refine RnL.cons (fun g8 A_ W_ hs_ => ?_) ?_
    · have q73_ := hs_.val 3 rfl rfl rfl
      refine Rn.val fun K_ hK_ => ?_
      go_simp
      exact hK_.out _ (Ext.refl _)
    exact RnL.nil
  simp only [fs, Kd.value, puts, Act.put, List.setIfInBounds_toArray, List.set_cons_zero, List.set_cons_succ]
  have HX9 : Hid (Ext w w9) := Lib.hid (HX8.out.drew.trans hx_)
  have HB0_9 := Lib.hid (HB0_8.out.drew.ext hx_)
  have HB2_9 := Lib.hid (HB2_8.out.drew.ext hx_)
  have HB3_9 := Lib.hid (HB3_8.out.drew.ext hx_)
  clear hx_ hm_ hne_
  have c0_2 := HB0_9.out.cell 2 rfl
  go_wp2_with fail
  refine (rsign_c n.z _).mono ?_; rintro e _ ⟨rfl, rfl⟩
  clear c0_2
  go_wp2_with fail
  refine wp_name (fun W => Ext w W ∧ Blk W (w3.heap.size) #[.string (qs d.x), .string (qs d.y)] 24 ∧ Blk W (w5.heap.size) #[.string (qs (-d.y)), .string (qs d.x)] 24) ⟨HX9.out, HB2_9.out, HB3_9.out⟩ ?_
  rintro w10 ⟨e10, bB2_10, bB3_10⟩
  have HX10 := Lib.hid e10; have HB2_10 := Lib.hid bB2_10; have HB3_10 := Lib.hid bB3_10
  clear e10 bB2_10 bB3_10
  refine region_lin [.val (.int .i64 0), .val (.bool false), .val (.bool false), .val (.int .i64 0), .val (.bool false), .val (.bool false), .val (.bool false), .val (.pointer (some ⟨w3.heap.size, 0, none⟩)), .val (.string (qs d.x)), .val (.pointer (some ⟨w3.heap.size, 1, none⟩)), .val (.string (qs d.y)), .mem (fun b_ => .slice (some ⟨b_, 0, none⟩) 2 2) #[.string (qs d.x), .string (qs d.y)] 22 Option.none, .val (.bool true), .val (.bool false), .val (.bool false), .val (.bool false), .val (.agg #[.string (qs (-d.y)), .string (qs d.x)]), .val (.pointer (some ⟨w3.heap.size, 1, none⟩)), .val (.string (qs d.y)), .val (.string (qs (-d.y))), .val (.pointer (some ⟨w3.heap.size, 0, none⟩)), .val (.string (qs d.x)), .val (.agg #[.string (qs (-d.y)), .string (qs d.x)]), .val (.bool false), .val (.bool false)] (by kernel_rfl) (by kernel_rfl) (by kernel_rfl) ?_ (fun g10 w11 hx_ hm_ hne_ => ?_)
  · skip
    refine RnL.cons (fun g10 A_ W_ hs_ => ?_) ?_
    · have q4_ := (hs_.old 4 (by kernel_rfl) : A_.tmps[4]?.getD undef = .int .i64 0)
      refine Rn.val fun K_ hK_ => ?_
      go_simp
      exact hK_.out _ (Ext.refl _)
    refine RnL.cons (fun g10 A_ W_ hs_ => ?_) ?_
    · have q82_ := hs_.val 0 rfl rfl rfl
      refine Rn.val fun K_ hK_ => ?_
      go_simp
      exact hK_.out _ (Ext.refl _)
    refine RnL.cons (fun g10 A_ W_ hs_ => ?_) ?_
    · have q83_ := hs_.val 1 rfl rfl rfl
      refine Rn.val fun K_ hK_ => ?_
      go_simp
      exact hK_.out _ (Ext.refl _)
    refine RnL.cons (fun g10 A_ W_ hs_ => ?_) ?_
    · have q6_ := (hs_.old 6 (by kernel_rfl) : A_.tmps[6]?.getD undef = .int .i64 0)
      refine Rn.val fun K_ hK_ => ?_
      go_simp
      exact hK_.out _ (Ext.refl _)
    refine RnL.cons (fun g10 A_ W_ hs_ => ?_) ?_
    · have q85_ := hs_.val 3 rfl rfl rfl
      refine Rn.val fun K_ hK_ => ?_
      go_simp
      exact hK_.out _ (Ext.refl _)
    refine RnL.cons (fun g10 A_ W_ hs_ => ?_) ?_
    · have q84_ := hs_.val 2 rfl rfl rfl
      have q86_ := hs_.val 4 rfl rfl rfl
      refine Rn.val fun K_ hK_ => ?_
      go_simp
      exact hK_.out _ (Ext.refl _)
    refine RnL.cons (fun g10 A_ W_ hs_ => ?_) ?_
    · have q87_ := hs_.val 5 rfl rfl rfl
      refine Rn.val fun K_ hK_ => ?_
      go_simp
      exact hK_.out _ (Ext.refl _)
    refine RnL.cons (fun g10 A_ W_ hs_ => ?_) ?_
    · have q3_ := (hs_.old 3 (by kernel_rfl) : A_.tmps[3]?.getD undef = .pointer (some ⟨w3.heap.size, 0, none⟩))
      refine Rn.val fun K_ hK_ => ?_
      go_simp
      exact hK_.out _ (Ext.refl _)
    refine RnL.cons (fun g10 A_ W_ hs_ => ?_) ?_
    · have q89_ := hs_.val 7 rfl rfl rfl
      have cB2_0 := ((HB2_10.out.drew.ext hs_.1)).cell 0 rfl
      refine Rn.val fun K_ hK_ => ?_
      go_simp
      exact hK_.out _ (Ext.refl _)
    refine RnL.cons (fun g10 A_ W_ hs_ => ?_) ?_
    · have q3_ := (hs_.old 3 (by kernel_rfl) : A_.tmps[3]?.getD undef = .pointer (some ⟨w3.heap.size, 0, none⟩))
      refine Rn.val fun K_ hK_ => ?_
      go_simp
      exact hK_.out _ (Ext.refl _)
    refine RnL.cons (fun g10 A_ W_ hs_ => ?_) ?_
    · have q91_ := hs_.val 9 rfl rfl rfl
      have cB2_1 := ((HB2_10.out.drew.ext hs_.1)).cell 1 rfl
      refine Rn.val fun K_ hK_ => ?_
      go_simp
      exact hK_.out _ (Ext.refl _)
    refine RnL.cons (fun g10 A_ W_ hs_ => ?_) ?_
    · have q90_ := hs_.val 8 rfl rfl rfl
      have q92_ := hs_.val 10 rfl rfl rfl
      refine Rn.mem fun K_ hK_ => ?_
      go_simp
      exact hK_.out
    refine RnL.cons (fun g10 A_ W_ hs_ => ?_) ?_
    · have q93_ := (hs_.mem 11 rfl rfl rfl).1
      refine Rn.val fun K_ hK_ => ?_
      go_simp
      refine (right15_b [qs d.x, qs d.y] 2 (g10 11) true _ (HG.out.ext (HX10.out.drew.trans hs_.1)) rfl (by decide) HL2.out HRT.out ((hs_.mem 11 rfl rfl rfl).2.2 rfl)).mono ?_; rintro e W9_ ⟨rfl, e9_⟩; exact hK_.out _ e9_
    refine RnL.cons (fun g10 A_ W_ hs_ => ?_) ?_
    · have q94_ := hs_.val 12 rfl rfl rfl
      refine Rn.val fun K_ hK_ => ?_
      go_simp
      exact hK_.out _ (Ext.refl _)
    refine RnL.cons (fun g10 A_ W_ hs_ => ?_) ?_
    · have q88_ := hs_.val 6 rfl rfl rfl
      have q95_ := hs_.val 13 rfl rfl rfl
      refine Rn.val fun K_ hK_ => ?_
      go_simp
      exact hK_.out _ (Ext.refl _)
    refine RnL.cons (fun g10 A_ W_ hs_ => ?_) ?_
    · have q96_ := hs_.val 14 rfl rfl rfl
      refine Rn.val fun K_ hK_ => ?_
      go_simp
      exact hK_.out _ (Ext.refl _)
    refine RnL.cons (fun g10 A_ W_ hs_ => ?_) ?_
    · have q5_ := (hs_.old 5 (by kernel_rfl) : A_.tmps[5]?.getD undef = .pointer (some ⟨w5.heap.size, 0, none⟩))
      have cB3_0 := ((HB3_10.out.drew.ext hs_.1)).cell 0 rfl
      have cB3_1 := ((HB3_10.out.drew.ext hs_.1)).cell 1 rfl
      refine Rn.val fun K_ hK_ => ?_
      go_simp
      exact hK_.out _ (Ext.refl _)
    refine RnL.cons (fun g10 A_ W_ hs_ => ?_) ?_
    · have q3_ := (hs_.old 3 (by kernel_rfl) : A_.tmps[3]?.getD undef = .pointer (some ⟨w3.heap.size, 0, none⟩))
      refine Rn.val fun K_ hK_ => ?_
      go_simp
      exact hK_.out _ (Ext.refl _)
    refine RnL.cons (fun g10 A_ W_ hs_ => ?_) ?_
    · have q99_ := hs_.val 17 rfl rfl rfl
      have cB2_1 := ((HB2_10.out.drew.ext hs_.1)).cell 1 rfl
      refine Rn.val fun K_ hK_ => ?_
      go_simp
      exact hK_.out _ (Ext.refl _)
    refine RnL.cons (fun g10 A_ W_ hs_ => ?_) ?_
    · have q100_ := hs_.val 18 rfl rfl rfl
      refine Rn.val fun K_ hK_ => ?_
      go_simp
      refine (rneg_c d.y _ HD.out.pb.y (by omega)).mono ?_; rintro e W9_ ⟨rfl, e9_⟩; exact hK_.out _ e9_
    refine RnL.cons (fun g10 A_ W_ hs_ => ?_) ?_
    · have q3_ := (hs_.old 3 (by kernel_rfl) : A_.tmps[3]?.getD undef = .pointer (some ⟨w3.heap.size, 0, none⟩))
      refine Rn.val fun K_ hK_ => ?_
      go_simp
      exact hK_.out _ (Ext.refl _)
    refine RnL.cons (fun g10 A_ W_ hs_ => ?_) ?_
    · have q102_ := hs_.val 20 rfl rfl rfl
      have cB2_0 := ((HB2_10.out.drew.ext hs_.1)).cell 0 rfl
      refine Rn.val fun K_ hK_ => ?_
      go_simp
      exact hK_.out _ (Ext.refl _)
    refine RnL.cons (fun g10 A_ W_ hs_ => ?_) ?_
    · have q101_ := hs_.val 19 rfl rfl rfl
      have q103_ := hs_.val 21 rfl rfl rfl
      refine Rn.val fun K_ hK_ => ?_
      go_simp
      exact hK_.out _ (Ext.refl _)
    refine RnL.cons (fun g10 A_ W_ hs_ => ?_) ?_
    · have q98_ := hs_.val 16 rfl rfl rfl
      have q104_ := hs_.val 22 rfl rfl rfl
      refine Rn.val fun K_ hK_ => ?_
      go_simp
      exact hK_.out _ (Ext.refl _)
    refine RnL.cons (fun g10 A_ W_ hs_ => ?_) ?_
    · have q97_ := hs_.val 15 rfl rfl rfl
      have q105_ := hs_.val 23 rfl rfl rfl
      refine Rn.val fun K_ hK_ => ?_
      go_simp
      exact hK_.out _ (Ext.refl _)
    exact RnL.nil
  simp only [fs, Kd.value, puts, Act.put, List.setIfInBounds_toArray, List.set_cons_zero, List.set_cons_succ, Nat.reduceAdd]
  have HX11 : Hid (Ext w w11) := Lib.hid (HX10.out.drew.trans hx_)
  have HB2_11 := Lib.hid (HB2_10.out.drew.ext hx_)
  have HB4_11 : Hid (Blk w11 (g10 11) #[.string (qs d.x), .string (qs d.y)] 22) := Lib.hid (hm_ 11 _ _ _ _ rfl).2; have HGEB4 : Hid (w.heap.size ≤ g10 11) := Lib.hid (Nat.le_trans HX10.out.size (hm_ 11 _ _ _ _ rfl).1)
  have HNEB2B4 : Hid (w3.heap.size ≠ g10 11) := Lib.hid (Nat.ne_of_lt (Nat.lt_of_lt_of_le HB2_10.out.lt (hm_ 11 _ _ _ _ rfl).1))
  clear hx_ hm_ hne_
  generalize g10 11 = i4 at *
  clear g10
  go_wp2_with fail
  refine wp_name (fun W => Ext w W ∧ Blk W (w3.heap.size) #[.string (qs d.x), .string (qs d.y)] 24) ⟨HX11.out, HB2_11.out⟩ ?_
  rintro w12 ⟨e12, bB2_12⟩
  have HX12 := Lib.hid e12; have HB2_12 := Lib.hid bB2_12
  clear e12 bB2_12
  refine region_lin [.val (.string (qs n.x)), .val (.pointer (some ⟨w3.heap.size, 1, none⟩)), .val (.string (qs d.y)), .val (.string (qs (n.x * d.y))), .val (.string (qs n.y)), .val (.pointer (some ⟨w3.heap.size, 0, none⟩)), .val (.string (qs d.x)), .val (.string (qs (n.y * d.x))), .val (.string (qs (n.x * d.y - n.y * d.x))), .val (.string (qs (n.x * d.y - n.y * d.x)))] (by kernel_rfl) (by kernel_rfl) (by kernel_rfl) ?_ (fun g12 w13 hx_ hm_ hne_ => ?_)
  · skip
    refine RnL.cons (fun g12 A_ W_ hs_ => ?_) ?_
    · have q8_ := (hs_.old 8 (by kernel_rfl) : A_.tmps[8]?.getD undef = .string (qs n.x))
      refine Rn.val fun K_ hK_ => ?_
      go_simp
      exact hK_.out _ (Ext.refl _)
    refine RnL.cons (fun g12 A_ W_ hs_ => ?_) ?_
    · have q3_ := (hs_.old 3 (by kernel_rfl) : A_.tmps[3]?.getD undef = .pointer (some ⟨w3.heap.size, 0, none⟩))
      refine Rn.val fun K_ hK_ => ?_
      go_simp
      exact hK_.out _ (Ext.refl _)
    refine RnL.cons (fun g12 A_ W_ hs_ => ?_) ?_
    · have q108_ := hs_.val 1 rfl rfl rfl
      have cB2_1 := ((HB2_12.out.drew.ext hs_.1)).cell 1 rfl
      refine Rn.val fun K_ hK_ => ?_
      go_simp
      exact hK_.out _ (Ext.refl _)
    refine RnL.cons (fun g12 A_ W_ hs_ => ?_) ?_
    · have q107_ := hs_.val 0 rfl rfl rfl
      have q109_ := hs_.val 2 rfl rfl rfl
      refine Rn.val fun K_ hK_ => ?_
      go_simp
      refine (rmul_c n.x d.y _ (HG.out.ext (HX12.out.drew.trans hs_.1)) HN4.out.x HD.out.pb.y (by omega) (by omega)).mono ?_; rintro e W9_ ⟨rfl, e9_⟩; exact hK_.out _ e9_
    refine RnL.cons (fun g12 A_ W_ hs_ => ?_) ?_
    · have q9_ := (hs_.old 9 (by kernel_rfl) : A_.tmps[9]?.getD undef = .string (qs n.y))
      refine Rn.val fun K_ hK_ => ?_
      go_simp
      exact hK_.out _ (Ext.refl _)
    refine RnL.cons (fun g12 A_ W_ hs_ => ?_) ?_
    · have q3_ := (hs_.old 3 (by kernel_rfl) : A_.tmps[3]?.getD undef = .pointer (some ⟨w3.heap.size, 0, none⟩))
      refine Rn.val fun K_ hK_ => ?_
      go_simp
      exact hK_.out _ (Ext.refl _)
    refine RnL.cons (fun g12 A_ W_ hs_ => ?_) ?_
    · have q112_ := hs_.val 5 rfl rfl rfl
      have cB2_0 := ((HB2_12.out.drew.ext hs_.1)).cell 0 rfl
      refine Rn.val fun K_ hK_ => ?_
      go_simp
      exact hK_.out _ (Ext.refl _)
    refine RnL.cons (fun g12 A_ W_ hs_ => ?_) ?_
    · have q111_ := hs_.val 4 rfl rfl rfl
      have q113_ := hs_.val 6 rfl rfl rfl
      refine Rn.val fun K_ hK_ => ?_
      go_simp
      refine (rmul_c n.y d.x _ (HG.out.ext (HX12.out.drew.trans hs_.1)) HN4.out.y HD.out.pb.x (by omega) (by omega)).mono ?_; rintro e W9_ ⟨rfl, e9_⟩; exact hK_.out _ e9_
    refine RnL.cons (fun g12 A_ W_ hs_ => ?_) ?_
    · have q110_ := hs_.val 3 rfl rfl rfl
      have q114_ := hs_.val 7 rfl rfl rfl
      refine Rn.val fun K_ hK_ => ?_
      go_simp
      refine (rsub_c (n.x * d.y) (n.y * d.x) _ (HG.out.ext (HX12.out.drew.trans hs_.1)) (HN4.out.x.mul HD.out.pb.y) (HN4.out.y.mul HD.out.pb.x) (by omega) (by omega)).mono ?_; rintro e W9_ ⟨rfl, e9_⟩; exact hK_.out _ e9_
    refine RnL.cons (fun g12 A_ W_ hs_ => ?_) ?_
    · have q115_ := hs_.val 8 rfl rfl rfl
      refine Rn.val fun K_ hK_ => ?_
      go_simp
      exact hK_.out _ (Ext.refl _)
    exact RnL.nil
  simp only [fs, Kd.value, puts, Act.put, List.setIfInBounds_toArray, List.set_cons_zero, List.set_cons_succ]
  have HX13 : Hid (Ext w w13) := Lib.hid (HX12.out.drew.trans hx_)
  have HB2_13 := Lib.hid (HB2_12.out.drew.ext hx_)
  clear hx_ hm_ hne_
  go_wp2_with fail
  refine wp_name (fun W => Ext w W ∧ Blk W (w3.heap.size) #[.string (qs d.x), .string (qs d.y)] 24) ⟨HX13.out, HB2_13.out⟩ ?_
  rintro w14 ⟨e14, bB2_14⟩
  have HX14 := Lib.hid e14; have HB2_14 := Lib.hid bB2_14
  clear e14 bB2_14
  refine region_lin [.val (.string (qs n.x)), .val (.pointer (some ⟨w3.heap.size, 0, none⟩)), .val (.string (qs d.x)), .val (.string (qs (n.x * d.x))), .val (.string (qs n.y)), .val (.pointer (some ⟨w3.heap.size, 1, none⟩)), .val (.string (qs d.y)), .val (.string (qs (n.y * d.y))), .val (.string (qs (n.x * d.x + n.y * d.y))), .val (.string (qs (n.x * d.x + n.y * d.y)))] (by kernel_rfl) (by kernel_rfl) (by kernel_rfl) ?_ (fun g14 w15 hx_ hm_ hne_ => ?_)
  · skip
    refine RnL.cons (fun g14 A_ W_ hs_ => ?_) ?_
    · have q8_ := (hs_.old 8 (by kernel_rfl) : A_.tmps[8]?.getD undef = .string (qs n.x))
      refine Rn.val fun K_ hK_ => ?_
      go_simp
      exact hK_.out _ (Ext.refl _)
    refine RnL.cons (fun g14 A_ W_ hs_ => ?_) ?_
    · have q3_ := (hs_.old 3 (by kernel_rfl) : A_.tmps[3]?.getD undef = .pointer (some ⟨w3.heap.size, 0, none⟩))
      refine Rn.val fun K_ hK_ => ?_
      go_simp
      exact hK_.out _ (Ext.refl _)
    refine RnL.cons (fun g14 A_ W_ hs_ => ?_) ?_
    · have q117_ := hs_.val 1 rfl rfl rfl
      have cB2_0 := ((HB2_14.out.drew.ext hs_.1)).cell 0 rfl
      refine Rn.val fun K_ hK_ => ?_
      go_simp
      exact hK_.out _ (Ext.refl _)
    refine RnL.cons (fun g14 A_ W_ hs_ => ?_) ?_
    · have q116_ := hs_.val 0 rfl rfl rfl
      have q118_ := hs_.val 2 rfl rfl rfl
      refine Rn.val fun K_ hK_ => ?_
      go_simp
      refine (rmul_c n.x d.x _ (HG.out.ext (HX14.out.drew.trans hs_.1)) HN4.out.x HD.out.pb.x (by omega) (by omega)).mono ?_; rintro e W9_ ⟨rfl, e9_⟩; exact hK_.out _ e9_
    refine RnL.cons (fun g14 A_ W_ hs_ => ?_) ?_
    · have q9_ := (hs_.old 9 (by kernel_rfl) : A_.tmps[9]?.getD undef = .string (qs n.y))
      refine Rn.val fun K_ hK_ => ?_
      go_simp
      exact hK_.out _ (Ext.refl _)
    refine RnL.cons (fun g14 A_ W_ hs_ => ?_) ?_
    · have q3_ := (hs_.old 3 (by kernel_rfl) : A_.tmps[3]?.getD undef = .pointer (some ⟨w3.heap.size, 0, none⟩))
      refine Rn.val fun K_ hK_ => ?_
      go_simp
      exact hK_.out _ (Ext.refl _)
    refine RnL.cons (fun g14 A_ W_ hs_ => ?_) ?_
    · have q121_ := hs_.val 5 rfl rfl rfl
      have cB2_1 := ((HB2_14.out.drew.ext hs_.1)).cell 1 rfl
      refine Rn.val fun K_ hK_ => ?_
      go_simp
      exact hK_.out _ (Ext.refl _)
    refine RnL.cons (fun g14 A_ W_ hs_ => ?_) ?_
    · have q120_ := hs_.val 4 rfl rfl rfl
      have q122_ := hs_.val 6 rfl rfl rfl
      refine Rn.val fun K_ hK_ => ?_
      go_simp
      refine (rmul_c n.y d.y _ (HG.out.ext (HX14.out.drew.trans hs_.1)) HN4.out.y HD.out.pb.y (by omega) (by omega)).mono ?_; rintro e W9_ ⟨rfl, e9_⟩; exact hK_.out _ e9_
    refine RnL.cons (fun g14 A_ W_ hs_ => ?_) ?_
    · have q119_ := hs_.val 3 rfl rfl rfl
      have q123_ := hs_.val 7 rfl rfl rfl
      refine Rn.val fun K_ hK_ => ?_
      go_simp
      refine (radd_c (n.x * d.x) (n.y * d.y) _ (HG.out.ext (HX14.out.drew.trans hs_.1)) (HN4.out.x.mul HD.out.pb.x) (HN4.out.y.mul HD.out.pb.y) (by omega) (by omega)).mono ?_; rintro e W9_ ⟨rfl, e9_⟩; exact hK_.out _ e9_
    refine RnL.cons (fun g14 A_ W_ hs_ => ?_) ?_
    · have q124_ := hs_.val 8 rfl rfl rfl
      refine Rn.val fun K_ hK_ => ?_
      go_simp
      exact hK_.out _ (Ext.refl _)
    exact RnL.nil
  simp only [fs, Kd.value, puts, Act.put, List.setIfInBounds_toArray, List.set_cons_zero, List.set_cons_succ]
  have HX15 : Hid (Ext w w15) := Lib.hid (HX14.out.drew.trans hx_)
  have HB2_15 := Lib.hid (HB2_14.out.drew.ext hx_)
  clear hx_ hm_ hne_
  go_wp2_with fail
  refine ((HDOT.out ▸ rsign_c (n.x * d.x + n.y * d.y) _)).mono ?_; rintro e _ ⟨rfl, rfl⟩
  have c2_0 := HB2_15.out.cell 0 rfl
  have c2_1 := HB2_15.out.cell 1 rfl
  go_wp2_with fail
  refine (lprim_c d.x d.y (w15.heap.size) _ (HG.out.ext (HX15.out.alloc _)) HPB.out.x HPB.out.y HD.out.ix HD.out.iy (Blk.new' (w := _) (cs := #[.string (qs d.x), .string (qs d.y), .string ⟨#[48]⟩]) (t := 22) (by first | rfl | (simp only [World.size_alloc]; done) | (simp only [World.size_alloc]; omega) | simp)) HD.out.gcd).mono ?_; rintro e w16 ⟨rfl, e16⟩
  have HX16 : Hid (Ext w w16) := Lib.hid ((HX15.out.alloc _).trans e16)
  have HB5_16 : Hid (Blk w16 (w15.heap.size) #[.string (qs d.x), .string (qs d.y), .string ⟨#[48]⟩] 22) := Lib.hid (Blk.ext (Blk.new' (w := _) (cs := #[.string (qs d.x), .string (qs d.y), .string ⟨#[48]⟩]) (t := 22) (by first | rfl | (simp only [World.size_alloc]; done) | (simp only [World.size_alloc]; omega) | simp)) e16)
  have HGEB5 : Hid (w.heap.size ≤ w15.heap.size) := Lib.hid (by have := HX15.out.size; first | omega | (simp only []; omega) | (simp; omega))
  clear e16 c2_0 c2_1
  go_wp2
  go_ret
  exact ⟨rfl, HX16.out⟩

theorem dirs15_walk (n : T3) (w : World) (g : Gd w) : Calls Tryz.prog 8 #[tv n] w (Ret w (.bool true)) := by
  cases hs : [n.x, n.y, n.z].all sz24 with
  | false => exact dirs15_L n w g hs
  | true =>
    have hs2 := hs
    simp only [List.all_cons, List.all_nil, Bool.and_true, Bool.and_eq_true, sz24_true] at hs2
    obtain ⟨s0, s1, s2⟩ := hs2
    have big : ∀ {s : ByteArray}, s.size ≤ 24 → s.size ≤ 1000000 := fun h => Nat.le_trans h (by decide)
    obtain ⟨e, he⟩ := nerr_ex (t := n) ⟨big s0, big s1, big s2⟩
    by_cases h0 : e = 0
    · obtain ⟨v, rfl, hv, hz⟩ := nerr_ok he h0
      by_cases hx : v.x = 0
      · by_cases hy : v.y = 0
        · exact dirs15_n v w g hs hz hx hy
        · by_cases hz0 : v.z < 0
          · exact dirs15_m1 v w g hs hz0 hx hy
          · exact dirs15_p1 v w g hs hz0 hx hy
      · by_cases hz0 : v.z < 0
        · exact dirs15_m0 v w g hs hz0 hx
        · exact dirs15_p0 v w g hs hz0 hx
    · exact dirs15_e n e w g hs he h0
end Go.Proofs.YtplimbgaoengfaaGreatDoor
