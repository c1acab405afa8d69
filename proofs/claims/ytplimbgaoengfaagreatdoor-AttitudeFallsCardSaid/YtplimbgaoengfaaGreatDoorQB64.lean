/- Part 64 of the proof: Sgn, N10. -/
import Derived.Test.YtplimbgaoengfaaGreatDoorQB1
import Derived.Test.YtplimbgaoengfaaGreatDoorQB2
import Derived.Test.YtplimbgaoengfaaGreatDoorQB3
import Derived.Test.YtplimbgaoengfaaGreatDoorQB4
import Derived.Test.YtplimbgaoengfaaGreatDoorQB5
import Derived.Test.YtplimbgaoengfaaGreatDoorQB6
import Derived.Test.YtplimbgaoengfaaGreatDoorQB7
import Derived.Test.YtplimbgaoengfaaGreatDoorQB8
import Derived.Test.YtplimbgaoengfaaGreatDoorQB9
import Derived.Test.YtplimbgaoengfaaGreatDoorQB10
import Derived.Test.YtplimbgaoengfaaGreatDoorQB11
import Derived.Test.YtplimbgaoengfaaGreatDoorQB12
import Derived.Test.YtplimbgaoengfaaGreatDoorQB13
import Derived.Test.YtplimbgaoengfaaGreatDoorQB14
import Derived.Test.YtplimbgaoengfaaGreatDoorQB15
import Derived.Test.YtplimbgaoengfaaGreatDoorQB16
import Derived.Test.YtplimbgaoengfaaGreatDoorQB17
import Derived.Test.YtplimbgaoengfaaGreatDoorQB18
import Derived.Test.YtplimbgaoengfaaGreatDoorQB19
import Derived.Test.YtplimbgaoengfaaGreatDoorQB20
import Derived.Test.YtplimbgaoengfaaGreatDoorQB21
import Derived.Test.YtplimbgaoengfaaGreatDoorQB22
import Derived.Test.YtplimbgaoengfaaGreatDoorQB23
import Derived.Test.YtplimbgaoengfaaGreatDoorQB24
import Derived.Test.YtplimbgaoengfaaGreatDoorQB25
import Derived.Test.YtplimbgaoengfaaGreatDoorQB26
import Derived.Test.YtplimbgaoengfaaGreatDoorQB28
import Derived.Test.YtplimbgaoengfaaGreatDoorQB30
import Derived.Test.YtplimbgaoengfaaGreatDoorQB50
import Derived.Test.YtplimbgaoengfaaGreatDoorQB58
namespace Go.Proofs.YtplimbgaoengfaaGreatDoor
open Go Go.RowKit
theorem qcmp_zero {x y : Rat} (h : x = y) : qcmp x y = 0 := by subst h; exact qcmp_self x
end Go.Proofs.YtplimbgaoengfaaGreatDoor

namespace Go.Proofs.YtplimbgaoengfaaGreatDoor
open Go Go.RowKit
set_option linter.unusedVariables false
inductive HErr (t : T2) : Int → Prop
  | num (hs : TS2 t) (h : t.l.all rq = false) : HErr t 2
  | zero (v : P2) (ht : t = ⟨qs v.x, qs v.y⟩) (hv : PB 200 v) (hz : v.x = 0 ∧ v.y = 0) : HErr t 17
  | ok (v : P2) (ht : t = ⟨qs v.x, qs v.y⟩) (hv : PB 200 v) (hz : ¬ (v.x = 0 ∧ v.y = 0)) : HErr t 0
theorem ahead_l {t : T2} {e : Int} (w : World) (g : Gd w) (h : HErr t e) : Calls Tryz.prog 44 #[tp t] w (Ret w (.int .i64 e)) := by
  cases h with
  | num hs h => exact ahead_e t w g hs (terr_2 h)
  | zero v ht hv hz => subst ht; exact ahead_z v w g hv hz.1 hz.2
  | ok v ht hv hz => subst ht; exact ahead_ok v w g hv hz
set_option maxRecDepth 100000 in
set_option maxHeartbeats 2000000 in
theorem aapp_h (n : T3) (a : T2) (e : Int) (w : World) (g : Gd w) (hen : NErr n 0) (hea : HErr a e) (he : e ≠ 0) : Calls Tryz.prog 30 #[.agg #[.string n.x, .string n.y, .string n.z], .agg #[.string a.x, .string a.y]] w (Ret w (.tuple #[.string ⟨#[]⟩, .int .i64 e])) := by
  have HEN := Lib.hid hen
  have HEA := Lib.hid hea
  have HG := Lib.hid g
  clear hen hea g
  have e_d : (e != 0) = true := bne_iff_ne.2 he
  have e_e : (e == 0) = false := beq_eq_false_iff_ne.2 he
  clear he
  go_enter Tryz.func30, Tryz.ntmps30
  go_wp2_with fail
  refine (acheck_l _ (HG.out.ext (((Ext.refl w).alloc _).alloc _)) HEN.out).mono ?_; rintro e w1 ⟨rfl, e1⟩
  have HX1 : Hid (Ext w w1) := Lib.hid ((((Ext.refl w).alloc _).alloc _).trans e1)
  have HB1_1 : Hid (Blk w1 (w.heap.size + 1) #[.string a.x, .string a.y] 24) := Lib.hid (Blk.ext (Blk.new' (w := _) (cs := #[.string a.x, .string a.y]) (t := 24) (by first | rfl | (simp only [World.size_alloc]; done) | (simp only [World.size_alloc]; omega) | simp)) e1)
  have HGEB1 : Hid (w.heap.size ≤ w.heap.size + 1) := Lib.hid (by first | omega | (simp only []; omega) | (simp; omega))
  clear e1
  have c1_0 := HB1_1.out.cell 0 rfl
  have c1_1 := HB1_1.out.cell 1 rfl
  go_wp2_with fail
  refine (ahead_l _ (HG.out.ext HX1.out) HEA.out).mono ?_; rintro e w2 ⟨rfl, e2⟩
  have HX2 : Hid (Ext w w2) := Lib.hid (HX1.out.trans e2)
  clear e2 c1_0 c1_1
  go_wp2
  go_ret2
  exact ⟨rfl, HX2.out⟩

set_option maxRecDepth 100000 in
set_option maxHeartbeats 2000000 in
theorem aapp_u (n : V3) (a : T2) (w : World) (g : Gd w) (hen : NErr ⟨qs n.x, qs n.y, qs n.z⟩ 0) (hea : HErr a 0) (h0 : n.z = 0) : Calls Tryz.prog 30 #[.agg #[.string (qs n.x), .string (qs n.y), .string (qs n.z)], .agg #[.string a.x, .string a.y]] w (Ret w (.tuple #[.string ⟨#[]⟩, .int .i64 21])) := by
  have HEN := Lib.hid hen
  have HEA := Lib.hid hea
  have HG := Lib.hid g
  clear hen hea g
  have h0_t := qs_is0 h0
  clear h0
  go_enter Tryz.func30, Tryz.ntmps30
  go_wp2_with fail
  refine (acheck_l _ (HG.out.ext (((Ext.refl w).alloc _).alloc _)) HEN.out).mono ?_; rintro e w1 ⟨rfl, e1⟩
  have HX1 : Hid (Ext w w1) := Lib.hid ((((Ext.refl w).alloc _).alloc _).trans e1)
  have HB0_1 : Hid (Blk w1 (w.heap.size) #[.string (qs n.x), .string (qs n.y), .string (qs n.z)] 37) := Lib.hid (Blk.ext ((Blk.new' (w := _) (cs := #[.string (qs n.x), .string (qs n.y), .string (qs n.z)]) (t := 37) (by first | rfl | (simp only [World.size_alloc]; done) | (simp only [World.size_alloc]; omega) | simp)).alloc _) e1)
  have HB1_1 : Hid (Blk w1 (w.heap.size + 1) #[.string a.x, .string a.y] 24) := Lib.hid (Blk.ext (Blk.new' (w := _) (cs := #[.string a.x, .string a.y]) (t := 24) (by first | rfl | (simp only [World.size_alloc]; done) | (simp only [World.size_alloc]; omega) | simp)) e1)
  have HGEB0 : Hid (w.heap.size ≤ w.heap.size) := Lib.hid (by first | omega | (simp only []; omega) | (simp; omega))
  have HGEB1 : Hid (w.heap.size ≤ w.heap.size + 1) := Lib.hid (by first | omega | (simp only []; omega) | (simp; omega))
  clear e1
  have c1_0 := HB1_1.out.cell 0 rfl
  have c1_1 := HB1_1.out.cell 1 rfl
  go_wp2_with fail
  refine (ahead_l _ (HG.out.ext HX1.out) HEA.out).mono ?_; rintro e w2 ⟨rfl, e2⟩
  have HX2 : Hid (Ext w w2) := Lib.hid (HX1.out.trans e2)
  have HB0_2 := Lib.hid (Blk.ext HB0_1.out e2)
  clear e2 c1_0 c1_1
  have c0_2 := HB0_2.out.cell 2 rfl
  go_wp2
  go_ret2
  exact ⟨rfl, HX2.out⟩

set_option maxRecDepth 100000 in
set_option maxHeartbeats 2000000 in
theorem aapp_ok (n : V3) (a : P2) (w : World) (g : Gd w) (hn : VB 24 n) (ha : PB 24 a) (hen : NErr ⟨qs n.x, qs n.y, qs n.z⟩ 0) (hea : HErr ⟨qs a.x, qs a.y⟩ 0) (h0 : n.z ≠ 0) : Calls Tryz.prog 30 #[.agg #[.string (qs n.x), .string (qs n.y), .string (qs n.z)], .agg #[.string (qs a.x), .string (qs a.y)]] w (Ret w (.tuple #[.string (qs ((n.x * a.x + n.y * a.y) / n.z)), .int .i64 0])) := by
  have HN4 := Lib.hid hn
  have HA4 := Lib.hid ha
  have HEN := Lib.hid hen
  have HEA := Lib.hid hea
  have HG := Lib.hid g
  clear hn ha hen hea g
  have h0_t := qs_not0 h0
  have H0 := Lib.hid h0; clear h0
  go_enter Tryz.func30, Tryz.ntmps30
  go_wp2_with fail
  refine (acheck_l _ (HG.out.ext (((Ext.refl w).alloc _).alloc _)) HEN.out).mono ?_; rintro e w1 ⟨rfl, e1⟩
  have HX1 : Hid (Ext w w1) := Lib.hid ((((Ext.refl w).alloc _).alloc _).trans e1)
  have HB0_1 : Hid (Blk w1 (w.heap.size) #[.string (qs n.x), .string (qs n.y), .string (qs n.z)] 37) := Lib.hid (Blk.ext ((Blk.new' (w := _) (cs := #[.string (qs n.x), .string (qs n.y), .string (qs n.z)]) (t := 37) (by first | rfl | (simp only [World.size_alloc]; done) | (simp only [World.size_alloc]; omega) | simp)).alloc _) e1)
  have HB1_1 : Hid (Blk w1 (w.heap.size + 1) #[.string (qs a.x), .string (qs a.y)] 24) := Lib.hid (Blk.ext (Blk.new' (w := _) (cs := #[.string (qs a.x), .string (qs a.y)]) (t := 24) (by first | rfl | (simp only [World.size_alloc]; done) | (simp only [World.size_alloc]; omega) | simp)) e1)
  have HGEB0 : Hid (w.heap.size ≤ w.heap.size) := Lib.hid (by first | omega | (simp only []; omega) | (simp; omega))
  have HGEB1 : Hid (w.heap.size ≤ w.heap.size + 1) := Lib.hid (by first | omega | (simp only []; omega) | (simp; omega))
  clear e1
  have c1_0 := HB1_1.out.cell 0 rfl
  have c1_1 := HB1_1.out.cell 1 rfl
  go_wp2_with fail
  refine (ahead_l _ (HG.out.ext HX1.out) HEA.out).mono ?_; rintro e w2 ⟨rfl, e2⟩
  have HX2 : Hid (Ext w w2) := Lib.hid (HX1.out.trans e2)
  have HB0_2 := Lib.hid (Blk.ext HB0_1.out e2)
  have HB1_2 := Lib.hid (Blk.ext HB1_1.out e2)
  clear e2 c1_0 c1_1
  have c0_2 := HB0_2.out.cell 2 rfl
  go_wp2_with fail
  refine wp_name (fun W => Ext w W ∧ Blk W (w.heap.size) #[.string (qs n.x), .string (qs n.y), .string (qs n.z)] 37 ∧ Blk W (w.heap.size + 1) #[.string (qs a.x), .string (qs a.y)] 24) ⟨HX2.out, HB0_2.out, HB1_2.out⟩ ?_
  rintro w3 ⟨e3, bB0_3, bB1_3⟩
  have HX3 := Lib.hid e3; have HB0_3 := Lib.hid bB0_3; have HB1_3 := Lib.hid bB1_3
  clear e3 bB0_3 bB1_3 c0_2
  refine region_lin [.val (.pointer (some ⟨w.heap.size, 0, none⟩)), .val (.string (qs n.x)), .val (.pointer (some ⟨w.heap.size + 1, 0, none⟩)), .val (.string (qs a.x)), .val (.string (qs (n.x * a.x))), .val (.pointer (some ⟨w.heap.size, 1, none⟩)), .val (.string (qs n.y)), .val (.pointer (some ⟨w.heap.size + 1, 1, none⟩)), .val (.string (qs a.y)), .val (.string (qs (n.y * a.y))), .val (.string (qs (n.x * a.x + n.y * a.y))), .val (.pointer (some ⟨w.heap.size, 2, none⟩)), .val (.string (qs n.z)), .val (.string (qs ((n.x * a.x + n.y * a.y) / n.z))), .val (.tuple #[.string (qs ((n.x * a.x + n.y * a.y) / n.z)), .int .i64 0]), .val (.string (qs ((n.x * a.x + n.y * a.y) / n.z))), .val (.int .i64 0), .val (.string (qs ((n.x * a.x + n.y * a.y) / n.z))), .val (.int .i64 0)] (by kernel_rfl) (by kernel_rfl) (by kernel_rfl) ?_ (fun g3 w4 hx_ hm_ hne_ => ?_)
  · skip
    refine RnL.cons (fun g3 A_ W_ hs_ => ?_) ?_
    · have q2_ := (hs_.old 2 (by kernel_rfl) : A_.tmps[2]?.getD undef = .pointer (some ⟨w.heap.size, 0, none⟩))
      refine Rn.val fun K_ hK_ => ?_
      go_simp
      exact hK_.out _ (Ext.refl _)
    refine RnL.cons (fun g3 A_ W_ hs_ => ?_) ?_
    · have q21_ := hs_.val 0 rfl rfl rfl
      have cB0_0 := ((HB0_3.out.drew.ext hs_.1)).cell 0 rfl
      refine Rn.val fun K_ hK_ => ?_
      go_simp
      exact hK_.out _ (Ext.refl _)
    refine RnL.cons (fun g3 A_ W_ hs_ => ?_) ?_
    · have q3_ := (hs_.old 3 (by kernel_rfl) : A_.tmps[3]?.getD undef = .pointer (some ⟨w.heap.size + 1, 0, none⟩))
      refine Rn.val fun K_ hK_ => ?_
      go_simp
      exact hK_.out _ (Ext.refl _)
    refine RnL.cons (fun g3 A_ W_ hs_ => ?_) ?_
    · have q23_ := hs_.val 2 rfl rfl rfl
      have cB1_0 := ((HB1_3.out.drew.ext hs_.1)).cell 0 rfl
      refine Rn.val fun K_ hK_ => ?_
      go_simp
      exact hK_.out _ (Ext.refl _)
    refine RnL.cons (fun g3 A_ W_ hs_ => ?_) ?_
    · have q22_ := hs_.val 1 rfl rfl rfl
      have q24_ := hs_.val 3 rfl rfl rfl
      refine Rn.val fun K_ hK_ => ?_
      go_simp
      refine (rmul_c n.x a.x _ (HG.out.ext (HX3.out.drew.trans hs_.1)) HN4.out.x HA4.out.x (by omega) (by omega)).mono ?_; rintro e W9_ ⟨rfl, e9_⟩; exact hK_.out _ e9_
    refine RnL.cons (fun g3 A_ W_ hs_ => ?_) ?_
    · have q2_ := (hs_.old 2 (by kernel_rfl) : A_.tmps[2]?.getD undef = .pointer (some ⟨w.heap.size, 0, none⟩))
      refine Rn.val fun K_ hK_ => ?_
      go_simp
      exact hK_.out _ (Ext.refl _)
    refine RnL.cons (fun g3 A_ W_ hs_ => ?_) ?_
    · have q26_ := hs_.val 5 rfl rfl rfl
      have cB0_1 := ((HB0_3.out.drew.ext hs_.1)).cell 1 rfl
      refine Rn.val fun K_ hK_ => ?_
      go_simp
      exact hK_.out _ (Ext.refl _)
    refine RnL.cons (fun g3 A_ W_ hs_ => ?_) ?_
    · have q3_ := (hs_.old 3 (by kernel_rfl) : A_.tmps[3]?.getD undef = .pointer (some ⟨w.heap.size + 1, 0, none⟩))
      refine Rn.val fun K_ hK_ => ?_
      go_simp
      exact hK_.out _ (Ext.refl _)
    refine RnL.cons (fun g3 A_ W_ hs_ => ?_) ?_
    · have q28_ := hs_.val 7 rfl rfl rfl
      have cB1_1 := ((HB1_3.out.drew.ext hs_.1)).cell 1 rfl
      refine Rn.val fun K_ hK_ => ?_
      go_simp
      exact hK_.out _ (Ext.refl _)
    refine RnL.cons (fun g3 A_ W_ hs_ => ?_) ?_
    · have q27_ := hs_.val 6 rfl rfl rfl
      have q29_ := hs_.val 8 rfl rfl rfl
      refine Rn.val fun K_ hK_ => ?_
      go_simp
      refine (rmul_c n.y a.y _ (HG.out.ext (HX3.out.drew.trans hs_.1)) HN4.out.y HA4.out.y (by omega) (by omega)).mono ?_; rintro e W9_ ⟨rfl, e9_⟩; exact hK_.out _ e9_
    refine RnL.cons (fun g3 A_ W_ hs_ => ?_) ?_
    · have q25_ := hs_.val 4 rfl rfl rfl
      have q30_ := hs_.val 9 rfl rfl rfl
      refine Rn.val fun K_ hK_ => ?_
      go_simp
      refine (radd_c (n.x * a.x) (n.y * a.y) _ (HG.out.ext (HX3.out.drew.trans hs_.1)) (HN4.out.x.mul HA4.out.x) (HN4.out.y.mul HA4.out.y) (by omega) (by omega)).mono ?_; rintro e W9_ ⟨rfl, e9_⟩; exact hK_.out _ e9_
    refine RnL.cons (fun g3 A_ W_ hs_ => ?_) ?_
    · have q2_ := (hs_.old 2 (by kernel_rfl) : A_.tmps[2]?.getD undef = .pointer (some ⟨w.heap.size, 0, none⟩))
      refine Rn.val fun K_ hK_ => ?_
      go_simp
      exact hK_.out _ (Ext.refl _)
    refine RnL.cons (fun g3 A_ W_ hs_ => ?_) ?_
    · have q32_ := hs_.val 11 rfl rfl rfl
      have cB0_2 := ((HB0_3.out.drew.ext hs_.1)).cell 2 rfl
      refine Rn.val fun K_ hK_ => ?_
      go_simp
      exact hK_.out _ (Ext.refl _)
    refine RnL.cons (fun g3 A_ W_ hs_ => ?_) ?_
    · have q31_ := hs_.val 10 rfl rfl rfl
      have q33_ := hs_.val 12 rfl rfl rfl
      refine Rn.val fun K_ hK_ => ?_
      go_simp
      refine (over_c (n.x * a.x + n.y * a.y) n.z _ (HG.out.ext (HX3.out.drew.trans hs_.1)) ((HN4.out.x.mul HA4.out.x).add (HN4.out.y.mul HA4.out.y)) HN4.out.z (by omega) (by omega) (by omega) H0.out).mono ?_; rintro e W9_ ⟨rfl, e9_⟩; exact hK_.out _ e9_
    refine RnL.cons (fun g3 A_ W_ hs_ => ?_) ?_
    · have q34_ := hs_.val 13 rfl rfl rfl
      refine Rn.val fun K_ hK_ => ?_
      go_simp
      refine (anum_ok ((n.x * a.x + n.y * a.y) / n.z) _ (HG.out.ext (HX3.out.drew.trans hs_.1)) ((((HN4.out.x.mul HA4.out.x).add (HN4.out.y.mul HA4.out.y)).div HN4.out.z (by decide)).mono (by decide))).mono ?_; rintro e W9_ ⟨rfl, e9_⟩; exact hK_.out _ e9_
    refine RnL.cons (fun g3 A_ W_ hs_ => ?_) ?_
    · have q35_ := hs_.val 14 rfl rfl rfl
      refine Rn.val fun K_ hK_ => ?_
      go_simp
      exact hK_.out _ (Ext.refl _)
    refine RnL.cons (fun g3 A_ W_ hs_ => ?_) ?_
    · have q35_ := hs_.val 14 rfl rfl rfl
      refine Rn.val fun K_ hK_ => ?_
      go_simp
      exact hK_.out _ (Ext.refl _)
    refine RnL.cons (fun g3 A_ W_ hs_ => ?_) ?_
    · have q36_ := hs_.val 15 rfl rfl rfl
      refine Rn.val fun K_ hK_ => ?_
      go_simp
      exact hK_.out _ (Ext.refl _)
    refine RnL.cons (fun g3 A_ W_ hs_ => ?_) ?_
    · have q37_ := hs_.val 16 rfl rfl rfl
      refine Rn.val fun K_ hK_ => ?_
      go_simp
      exact hK_.out _ (Ext.refl _)
    exact RnL.nil
  simp only [fs, Kd.value, puts, Act.put, List.setIfInBounds_toArray, List.set_cons_zero, List.set_cons_succ]
  have HX4 : Hid (Ext w w4) := Lib.hid (HX3.out.drew.trans hx_)
  clear hx_ hm_ hne_
  go_wp2
  go_ret2
  exact ⟨rfl, HX4.out⟩

end Go.Proofs.YtplimbgaoengfaaGreatDoor
