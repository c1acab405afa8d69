/- Part 32 of the proof: N2. -/
import Derived.Test.YtplimbgaoengfaaGreatDoorQB1
import Derived.Test.YtplimbgaoengfaaGreatDoorQB2
import Derived.Test.YtplimbgaoengfaaGreatDoorQB3
import Derived.Test.YtplimbgaoengfaaGreatDoorQB4
import Derived.Test.YtplimbgaoengfaaGreatDoorQB5
import Derived.Test.YtplimbgaoengfaaGreatDoorQB6
import Derived.Test.YtplimbgaoengfaaGreatDoorQB7
import Derived.Test.YtplimbgaoengfaaGreatDoorQB8
import Derived.Test.YtplimbgaoengfaaGreatDoorQB9
import Derived.Test.YtplimbgaoengfaaGreatDoorQB10
import Derived.Test.YtplimbgaoengfaaGreatDoorQB11
import Derived.Test.YtplimbgaoengfaaGreatDoorQB12
import Derived.Test.YtplimbgaoengfaaGreatDoorQB13
import Derived.Test.YtplimbgaoengfaaGreatDoorQB14
import Derived.Test.YtplimbgaoengfaaGreatDoorQB15
import Derived.Test.YtplimbgaoengfaaGreatDoorQB16
import Derived.Test.YtplimbgaoengfaaGreatDoorQB17
import Derived.Test.YtplimbgaoengfaaGreatDoorQB18
import Derived.Test.YtplimbgaoengfaaGreatDoorQB19
import Derived.Test.YtplimbgaoengfaaGreatDoorQB20
import Derived.Test.YtplimbgaoengfaaGreatDoorQB21
import Derived.Test.YtplimbgaoengfaaGreatDoorQB22
import Derived.Test.YtplimbgaoengfaaGreatDoorQB23
import Derived.Test.YtplimbgaoengfaaGreatDoorQB24
import Derived.Test.YtplimbgaoengfaaGreatDoorQB25
import Derived.Test.YtplimbgaoengfaaGreatDoorQB28
import Derived.Test.YtplimbgaoengfaaGreatDoorQB30
namespace Go.Proofs.YtplimbgaoengfaaGreatDoor
open Go Go.RowKit
set_option maxRecDepth 100000 in
set_option maxHeartbeats 2000000 in
theorem aover_ok (n : V3) (sb : Bool) (w : World) (g : Gd w) (hn : VB 200 n) (hz : ¬ (n.x = 0 ∧ n.y = 0 ∧ n.z = 0)) (hs : decide (n.z.num < 0) = sb) : Calls Tryz.prog 23 #[.agg #[.string (qs n.x), .string (qs n.y), .string (qs n.z)]] w (Ret w (.tuple #[.bool sb, .int .i64 0])) := by
  have HN := Lib.hid hn
  have HZ := Lib.hid hz
  have HG := Lib.hid g
  clear hn hz g
  go_enter Tryz.func23, Tryz.ntmps23
  go_wp2_with fail
  refine (acheck_ok n _ (HG.out.ext ((Ext.refl w).alloc _)) HN.out HZ.out).mono ?_; rintro e w1 ⟨rfl, e1⟩
  have HX1 : Hid (Ext w w1) := Lib.hid (((Ext.refl w).alloc _).trans e1)
  have HB0_1 : Hid (Blk w1 (w.heap.size) #[.string (qs n.x), .string (qs n.y), .string (qs n.z)] 37) := Lib.hid (Blk.ext (Blk.new' (w := _) (cs := #[.string (qs n.x), .string (qs n.y), .string (qs n.z)]) (t := 37) (by first | rfl | (simp only [World.size_alloc]; done) | (simp only [World.size_alloc]; omega) | simp)) e1)
  have HGEB0 : Hid (w.heap.size ≤ w.heap.size) := Lib.hid (by first | omega | (simp only []; omega) | (simp; omega))
  clear e1
  have c0_2 := HB0_1.out.cell 2 rfl
  go_wp2_with fail
  refine (rsign_c n.z _).mono ?_; rintro e _ ⟨rfl, rfl⟩
  clear c0_2
  go_wp2
  go_ret2
  exact ⟨rfl, HX1.out⟩

set_option maxRecDepth 100000 in
set_option maxHeartbeats 2000000 in
theorem aheight_a (n : V3) (o : ByteArray) (a : T2) (w : World) (g : Gd w) (hn : VB 200 n) (hz : ¬ (n.x = 0 ∧ n.y = 0 ∧ n.z = 0)) (ho : o.size ≤ 1000000) (hq : rq o = true) (ha : TS2 a) (ha2 : terr a.l = 2) : Calls Tryz.prog 17 #[.agg #[.string (qs n.x), .string (qs n.y), .string (qs n.z), .string o], .agg #[.string a.x, .string a.y]] w (Ret w (.tuple #[.string ⟨#[]⟩, .int .i64 2])) := by
  have HN := Lib.hid hn
  have HZ := Lib.hid hz
  have HO := Lib.hid ho
  have HQ := Lib.hid hq
  have HA := Lib.hid ha
  have HA2 := Lib.hid ha2
  have HG := Lib.hid g
  clear hn hz ho hq ha ha2 g
  go_enter Tryz.func17, Tryz.ntmps17
  go_wp2_with fail
  refine (acheck_ok n _ (HG.out.ext (((Ext.refl w).alloc _).alloc _)) HN.out HZ.out).mono ?_; rintro e w1 ⟨rfl, e1⟩
  have HX1 : Hid (Ext w w1) := Lib.hid ((((Ext.refl w).alloc _).alloc _).trans e1)
  have HB0_1 : Hid (Blk w1 (w.heap.size) #[.string (qs n.x), .string (qs n.y), .string (qs n.z), .string o] 39) := Lib.hid (Blk.ext ((Blk.new' (w := _) (cs := #[.string (qs n.x), .string (qs n.y), .string (qs n.z), .string o]) (t := 39) (by first | rfl | (simp only [World.size_alloc]; done) | (simp only [World.size_alloc]; omega) | simp)).alloc _) e1)
  have HB1_1 : Hid (Blk w1 (w.heap.size + 1) #[.string a.x, .string a.y] 24) := Lib.hid (Blk.ext (Blk.new' (w := _) (cs := #[.string a.x, .string a.y]) (t := 24) (by first | rfl | (simp only [World.size_alloc]; done) | (simp only [World.size_alloc]; omega) | simp)) e1)
  have HGEB0 : Hid (w.heap.size ≤ w.heap.size) := Lib.hid (by first | omega | (simp only []; omega) | (simp; omega))
  have HGEB1 : Hid (w.heap.size ≤ w.heap.size + 1) := Lib.hid (by first | omega | (simp only []; omega) | (simp; omega))
  clear e1
  have c0_3 := HB0_1.out.cell 3 rfl
  go_wp2_with fail
  refine (rcheck_yes o _ (HG.out.ext HX1.out) HO.out HQ.out).mono ?_; rintro e w2 ⟨rfl, e2⟩
  have HX2 : Hid (Ext w w2) := Lib.hid (HX1.out.trans e2)
  have HB1_2 := Lib.hid (Blk.ext HB1_1.out e2)
  clear e2 c0_3
  have c1_0 := HB1_2.out.cell 0 rfl
  have c1_1 := HB1_2.out.cell 1 rfl
  go_wp2_with fail
  refine ((HA2.out ▸ vcheckp_c a _ (HG.out.ext HX2.out) HA.out)).mono ?_; rintro e w3 ⟨rfl, e3⟩
  have HX3 : Hid (Ext w w3) := Lib.hid (HX2.out.trans e3)
  clear e3 c1_0 c1_1
  go_wp2
  go_ret2
  exact ⟨rfl, HX3.out⟩

set_option maxRecDepth 100000 in
set_option maxHeartbeats 2000000 in
theorem aheight_ok (n : V3) (c : Rat) (a : P2) (w : World) (g : Gd w) (h200 : VB 200 n) (hn : VB 24 n) (hz : ¬ (n.x = 0 ∧ n.y = 0 ∧ n.z = 0)) (hc : QB 24 c) (ha : PB 24 a) (h0 : n.z ≠ 0) (hr : QB 200 ((c - (n.x * a.x + n.y * a.y)) / n.z)) : Calls Tryz.prog 17 #[.agg #[.string (qs n.x), .string (qs n.y), .string (qs n.z), .string (qs c)], .agg #[.string (qs a.x), .string (qs a.y)]] w (Ret w (.tuple #[.string (qs ((c - (n.x * a.x + n.y * a.y)) / n.z)), .int .i64 0])) := by
  have HN := Lib.hid h200
  have HN4 := Lib.hid hn
  have HZ := Lib.hid hz
  have HO := Lib.hid hc
  have HA := Lib.hid ha
  have HR := Lib.hid hr
  have HG := Lib.hid g
  clear h200 hn hz hc ha hr g
  have h0_t := qs_not0 h0
  have H0 := Lib.hid h0
  clear h0
  go_enter Tryz.func17, Tryz.ntmps17
  go_wp2_with fail
  refine (acheck_ok n _ (HG.out.ext (((Ext.refl w).alloc _).alloc _)) HN.out HZ.out).mono ?_; rintro e w1 ⟨rfl, e1⟩
  have HX1 : Hid (Ext w w1) := Lib.hid ((((Ext.refl w).alloc _).alloc _).trans e1)
  have HB0_1 : Hid (Blk w1 (w.heap.size) #[.string (qs n.x), .string (qs n.y), .string (qs n.z), .string (qs c)] 39) := Lib.hid (Blk.ext ((Blk.new' (w := _) (cs := #[.string (qs n.x), .string (qs n.y), .string (qs n.z), .string (qs c)]) (t := 39) (by first | rfl | (simp only [World.size_alloc]; done) | (simp only [World.size_alloc]; omega) | simp)).alloc _) e1)
  have HB1_1 : Hid (Blk w1 (w.heap.size + 1) #[.string (qs a.x), .string (qs a.y)] 24) := Lib.hid (Blk.ext (Blk.new' (w := _) (cs := #[.string (qs a.x), .string (qs a.y)]) (t := 24) (by first | rfl | (simp only [World.size_alloc]; done) | (simp only [World.size_alloc]; omega) | simp)) e1)
  have HGEB0 : Hid (w.heap.size ≤ w.heap.size) := Lib.hid (by first | omega | (simp only []; omega) | (simp; omega))
  have HGEB1 : Hid (w.heap.size ≤ w.heap.size + 1) := Lib.hid (by first | omega | (simp only []; omega) | (simp; omega))
  clear e1
  have c0_3 := HB0_1.out.cell 3 rfl
  go_wp2_with fail
  refine (rcheck_yes (qs c) _ (HG.out.ext HX1.out) ((HO.out.mono (by decide) : QB 200 c).len (by decide)) (rq_qs (HO.out.mono (by decide)))).mono ?_; rintro e w2 ⟨rfl, e2⟩
  have HX2 : Hid (Ext w w2) := Lib.hid (HX1.out.trans e2)
  have HB0_2 := Lib.hid (Blk.ext HB0_1.out e2)
  have HB1_2 := Lib.hid (Blk.ext HB1_1.out e2)
  clear e2 c0_3
  have c1_0 := HB1_2.out.cell 0 rfl
  have c1_1 := HB1_2.out.cell 1 rfl
  go_wp2_with fail
  refine (vCheckPoint_ok a _ (HG.out.ext HX2.out) (HA.out.mono (by decide))).mono ?_; rintro e w3 ⟨rfl, e3⟩
  have HX3 : Hid (Ext w w3) := Lib.hid (HX2.out.trans e3)
  have HB0_3 := Lib.hid (Blk.ext HB0_2.out e3)
  have HB1_3 := Lib.hid (Blk.ext HB1_2.out e3)
  clear e3 c1_0 c1_1
  have c0_2 := HB0_3.out.cell 2 rfl
  go_wp2_with fail
  refine wp_name (fun W => Ext w W ∧ Blk W (w.heap.size) #[.string (qs n.x), .string (qs n.y), .string (qs n.z), .string (qs c)] 39 ∧ Blk W (w.heap.size + 1) #[.string (qs a.x), .string (qs a.y)] 24) ⟨HX3.out, HB0_3.out, HB1_3.out⟩ ?_
  rintro w4 ⟨e4, bB0_4, bB1_4⟩
  have HX4 := Lib.hid e4; have HB0_4 := Lib.hid bB0_4; have HB1_4 := Lib.hid bB1_4
  clear e4 bB0_4 bB1_4 c0_2
  refine region_lin [.val (.pointer (some ⟨w.heap.size, 0, none⟩)), .val (.pointer (some ⟨w.heap.size, 0, none⟩)), .val (.string (qs n.x)), .val (.pointer (some ⟨w.heap.size + 1, 0, none⟩)), .val (.string (qs a.x)), .val (.string (qs (n.x * a.x))), .val (.pointer (some ⟨w.heap.size, 0, none⟩)), .val (.pointer (some ⟨w.heap.size, 1, none⟩)), .val (.string (qs n.y)), .val (.pointer (some ⟨w.heap.size + 1, 1, none⟩)), .val (.string (qs a.y)), .val (.string (qs (n.y * a.y))), .val (.string (qs (n.x * a.x + n.y * a.y))), .val (.string (qs (n.x * a.x + n.y * a.y)))] (by kernel_rfl) (by kernel_rfl) (by kernel_rfl) ?_ (fun g4 w5 hx_ hm_ hne_ => ?_)
  · skip
    refine RnL.cons (fun g4 A_ W_ hs_ => ?_) ?_
    · have q2_ := (hs_.old 2 (by kernel_rfl) : A_.tmps[2]?.getD undef = .pointer (some ⟨w.heap.size, 0, none⟩))
      refine Rn.val fun K_ hK_ => ?_
      go_simp
      exact hK_.out _ (Ext.refl _)
    refine RnL.cons (fun g4 A_ W_ hs_ => ?_) ?_
    · have q29_ := hs_.val 0 rfl rfl rfl
      refine Rn.val fun K_ hK_ => ?_
      go_simp
      exact hK_.out _ (Ext.refl _)
    refine RnL.cons (fun g4 A_ W_ hs_ => ?_) ?_
    · have q30_ := hs_.val 1 rfl rfl rfl
      have cB0_0 := ((HB0_4.out.drew.ext hs_.1)).cell 0 rfl
      refine Rn.val fun K_ hK_ => ?_
      go_simp
      exact hK_.out _ (Ext.refl _)
    refine RnL.cons (fun g4 A_ W_ hs_ => ?_) ?_
    · have q3_ := (hs_.old 3 (by kernel_rfl) : A_.tmps[3]?.getD undef = .pointer (some ⟨w.heap.size + 1, 0, none⟩))
      refine Rn.val fun K_ hK_ => ?_
      go_simp
      exact hK_.out _ (Ext.refl _)
    refine RnL.cons (fun g4 A_ W_ hs_ => ?_) ?_
    · have q32_ := hs_.val 3 rfl rfl rfl
      have cB1_0 := ((HB1_4.out.drew.ext hs_.1)).cell 0 rfl
      refine Rn.val fun K_ hK_ => ?_
      go_simp
      exact hK_.out _ (Ext.refl _)
    refine RnL.cons (fun g4 A_ W_ hs_ => ?_) ?_
    · have q31_ := hs_.val 2 rfl rfl rfl
      have q33_ := hs_.val 4 rfl rfl rfl
      refine Rn.val fun K_ hK_ => ?_
      go_simp
      refine (rmul_c n.x a.x _ (HG.out.ext (HX4.out.drew.trans hs_.1)) HN4.out.x HA.out.x (by omega) (by omega)).mono ?_; rintro e W9_ ⟨rfl, e9_⟩; exact hK_.out _ e9_
    refine RnL.cons (fun g4 A_ W_ hs_ => ?_) ?_
    · have q2_ := (hs_.old 2 (by kernel_rfl) : A_.tmps[2]?.getD undef = .pointer (some ⟨w.heap.size, 0, none⟩))
      refine Rn.val fun K_ hK_ => ?_
      go_simp
      exact hK_.out _ (Ext.refl _)
    refine RnL.cons (fun g4 A_ W_ hs_ => ?_) ?_
    · have q35_ := hs_.val 6 rfl rfl rfl
      refine Rn.val fun K_ hK_ => ?_
      go_simp
      exact hK_.out _ (Ext.refl _)
    refine RnL.cons (fun g4 A_ W_ hs_ => ?_) ?_
    · have q36_ := hs_.val 7 rfl rfl rfl
      have cB0_1 := ((HB0_4.out.drew.ext hs_.1)).cell 1 rfl
      refine Rn.val fun K_ hK_ => ?_
      go_simp
      exact hK_.out _ (Ext.refl _)
    refine RnL.cons (fun g4 A_ W_ hs_ => ?_) ?_
    · have q3_ := (hs_.old 3 (by kernel_rfl) : A_.tmps[3]?.getD undef = .pointer (some ⟨w.heap.size + 1, 0, none⟩))
      refine Rn.val fun K_ hK_ => ?_
      go_simp
      exact hK_.out _ (Ext.refl _)
    refine RnL.cons (fun g4 A_ W_ hs_ => ?_) ?_
    · have q38_ := hs_.val 9 rfl rfl rfl
      have cB1_1 := ((HB1_4.out.drew.ext hs_.1)).cell 1 rfl
      refine Rn.val fun K_ hK_ => ?_
      go_simp
      exact hK_.out _ (Ext.refl _)
    refine RnL.cons (fun g4 A_ W_ hs_ => ?_) ?_
    · have q37_ := hs_.val 8 rfl rfl rfl
      have q39_ := hs_.val 10 rfl rfl rfl
      refine Rn.val fun K_ hK_ => ?_
      go_simp
      refine (rmul_c n.y a.y _ (HG.out.ext (HX4.out.drew.trans hs_.1)) HN4.out.y HA.out.y (by omega) (by omega)).mono ?_; rintro e W9_ ⟨rfl, e9_⟩; exact hK_.out _ e9_
    refine RnL.cons (fun g4 A_ W_ hs_ => ?_) ?_
    · have q34_ := hs_.val 5 rfl rfl rfl
      have q40_ := hs_.val 11 rfl rfl rfl
      refine Rn.val fun K_ hK_ => ?_
      go_simp
      refine (radd_c (n.x * a.x) (n.y * a.y) _ (HG.out.ext (HX4.out.drew.trans hs_.1)) (HN4.out.x.mul HA.out.x) (HN4.out.y.mul HA.out.y) (by omega) (by omega)).mono ?_; rintro e W9_ ⟨rfl, e9_⟩; exact hK_.out _ e9_
    refine RnL.cons (fun g4 A_ W_ hs_ => ?_) ?_
    · have q41_ := hs_.val 12 rfl rfl rfl
      refine Rn.val fun K_ hK_ => ?_
      go_simp
      exact hK_.out _ (Ext.refl _)
    exact RnL.nil
  simp only [fs, Kd.value, puts, Act.put, List.setIfInBounds_toArray, List.set_cons_zero, List.set_cons_succ]
  have HX5 : Hid (Ext w w5) := Lib.hid (HX4.out.drew.trans hx_)
  have HB0_5 := Lib.hid (HB0_4.out.drew.ext hx_)
  clear hx_ hm_ hne_
  go_wp2_with fail
  refine wp_name (fun W => Ext w W ∧ Blk W (w.heap.size) #[.string (qs n.x), .string (qs n.y), .string (qs n.z), .string (qs c)] 39) ⟨HX5.out, HB0_5.out⟩ ?_
  rintro w6 ⟨e6, bB0_6⟩
  have HX6 := Lib.hid e6; have HB0_6 := Lib.hid bB0_6
  clear e6 bB0_6
  refine region_lin [.val (.pointer (some ⟨w.heap.size, 3, none⟩)), .val (.string (qs c)), .val (.string (qs (n.x * a.x + n.y * a.y))), .val (.string (qs (c - (n.x * a.x + n.y * a.y)))), .val (.pointer (some ⟨w.heap.size, 0, none⟩)), .val (.pointer (some ⟨w.heap.size, 2, none⟩)), .val (.string (qs n.z)), .val (.string (qs ((c - (n.x * a.x + n.y * a.y)) / n.z))), .val (.tuple #[.string (qs ((c - (n.x * a.x + n.y * a.y)) / n.z)), .int .i64 0]), .val (.string (qs ((c - (n.x * a.x + n.y * a.y)) / n.z))), .val (.int .i64 0), .val (.string (qs ((c - (n.x * a.x + n.y * a.y)) / n.z))), .val (.int .i64 0)] (by kernel_rfl) (by kernel_rfl) (by kernel_rfl) ?_ (fun g6 w7 hx_ hm_ hne_ => ?_)
  · skip
    refine RnL.cons (fun g6 A_ W_ hs_ => ?_) ?_
    · have q2_ := (hs_.old 2 (by kernel_rfl) : A_.tmps[2]?.getD undef = .pointer (some ⟨w.heap.size, 0, none⟩))
      refine Rn.val fun K_ hK_ => ?_
      go_simp
      exact hK_.out _ (Ext.refl _)
    refine RnL.cons (fun g6 A_ W_ hs_ => ?_) ?_
    · have q42_ := hs_.val 0 rfl rfl rfl
      have cB0_3 := ((HB0_6.out.drew.ext hs_.1)).cell 3 rfl
      refine Rn.val fun K_ hK_ => ?_
      go_simp
      exact hK_.out _ (Ext.refl _)
    refine RnL.cons (fun g6 A_ W_ hs_ => ?_) ?_
    · have q7_ := (hs_.old 7 (by kernel_rfl) : A_.tmps[7]?.getD undef = .string (qs (n.x * a.x + n.y * a.y)))
      refine Rn.val fun K_ hK_ => ?_
      go_simp
      exact hK_.out _ (Ext.refl _)
    refine RnL.cons (fun g6 A_ W_ hs_ => ?_) ?_
    · have q43_ := hs_.val 1 rfl rfl rfl
      have q44_ := hs_.val 2 rfl rfl rfl
      refine Rn.val fun K_ hK_ => ?_
      go_simp
      refine (rsub_c c (n.x * a.x + n.y * a.y) _ (HG.out.ext (HX6.out.drew.trans hs_.1)) HO.out ((HN4.out.x.mul HA.out.x).add (HN4.out.y.mul HA.out.y)) (by omega) (by omega)).mono ?_; rintro e W9_ ⟨rfl, e9_⟩; exact hK_.out _ e9_
    refine RnL.cons (fun g6 A_ W_ hs_ => ?_) ?_
    · have q2_ := (hs_.old 2 (by kernel_rfl) : A_.tmps[2]?.getD undef = .pointer (some ⟨w.heap.size, 0, none⟩))
      refine Rn.val fun K_ hK_ => ?_
      go_simp
      exact hK_.out _ (Ext.refl _)
    refine RnL.cons (fun g6 A_ W_ hs_ => ?_) ?_
    · have q46_ := hs_.val 4 rfl rfl rfl
      refine Rn.val fun K_ hK_ => ?_
      go_simp
      exact hK_.out _ (Ext.refl _)
    refine RnL.cons (fun g6 A_ W_ hs_ => ?_) ?_
    · have q47_ := hs_.val 5 rfl rfl rfl
      have cB0_2 := ((HB0_6.out.drew.ext hs_.1)).cell 2 rfl
      refine Rn.val fun K_ hK_ => ?_
      go_simp
      exact hK_.out _ (Ext.refl _)
    refine RnL.cons (fun g6 A_ W_ hs_ => ?_) ?_
    · have q45_ := hs_.val 3 rfl rfl rfl
      have q48_ := hs_.val 6 rfl rfl rfl
      refine Rn.val fun K_ hK_ => ?_
      go_simp
      refine (over_c (c - (n.x * a.x + n.y * a.y)) n.z _ (HG.out.ext (HX6.out.drew.trans hs_.1)) (HO.out.sub ((HN4.out.x.mul HA.out.x).add (HN4.out.y.mul HA.out.y))) HN4.out.z (by omega) (by omega) (by omega) H0.out).mono ?_; rintro e W9_ ⟨rfl, e9_⟩; exact hK_.out _ e9_
    refine RnL.cons (fun g6 A_ W_ hs_ => ?_) ?_
    · have q49_ := hs_.val 7 rfl rfl rfl
      refine Rn.val fun K_ hK_ => ?_
      go_simp
      refine (anum_ok ((c - (n.x * a.x + n.y * a.y)) / n.z) _ (HG.out.ext (HX6.out.drew.trans hs_.1)) HR.out).mono ?_; rintro e W9_ ⟨rfl, e9_⟩; exact hK_.out _ e9_
    refine RnL.cons (fun g6 A_ W_ hs_ => ?_) ?_
    · have q50_ := hs_.val 8 rfl rfl rfl
      refine Rn.val fun K_ hK_ => ?_
      go_simp
      exact hK_.out _ (Ext.refl _)
    refine RnL.cons (fun g6 A_ W_ hs_ => ?_) ?_
    · have q50_ := hs_.val 8 rfl rfl rfl
      refine Rn.val fun K_ hK_ => ?_
      go_simp
      exact hK_.out _ (Ext.refl _)
    refine RnL.cons (fun g6 A_ W_ hs_ => ?_) ?_
    · have q51_ := hs_.val 9 rfl rfl rfl
      refine Rn.val fun K_ hK_ => ?_
      go_simp
      exact hK_.out _ (Ext.refl _)
    refine RnL.cons (fun g6 A_ W_ hs_ => ?_) ?_
    · have q52_ := hs_.val 10 rfl rfl rfl
      refine Rn.val fun K_ hK_ => ?_
      go_simp
      exact hK_.out _ (Ext.refl _)
    exact RnL.nil
  simp only [fs, Kd.value, puts, Act.put, List.setIfInBounds_toArray, List.set_cons_zero, List.set_cons_succ]
  have HX7 : Hid (Ext w w7) := Lib.hid (HX6.out.drew.trans hx_)
  clear hx_ hm_ hne_
  go_wp2
  go_ret2
  exact ⟨rfl, HX7.out⟩

end Go.Proofs.YtplimbgaoengfaaGreatDoor
