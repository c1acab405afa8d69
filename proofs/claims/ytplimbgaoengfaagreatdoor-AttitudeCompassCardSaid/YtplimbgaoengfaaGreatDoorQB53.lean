/- Part 53 of the proof: N9. -/
import Derived.Test.YtplimbgaoengfaaGreatDoorQB1
import Derived.Test.YtplimbgaoengfaaGreatDoorQB2
import Derived.Test.YtplimbgaoengfaaGreatDoorQB3
import Derived.Test.YtplimbgaoengfaaGreatDoorQB4
import Derived.Test.YtplimbgaoengfaaGreatDoorQB5
import Derived.Test.YtplimbgaoengfaaGreatDoorQB6
import Derived.Test.YtplimbgaoengfaaGreatDoorQB7
import Derived.Test.YtplimbgaoengfaaGreatDoorQB8
import Derived.Test.YtplimbgaoengfaaGreatDoorQB9
import Derived.Test.YtplimbgaoengfaaGreatDoorQB10
import Derived.Test.YtplimbgaoengfaaGreatDoorQB11
import Derived.Test.YtplimbgaoengfaaGreatDoorQB12
import Derived.Test.YtplimbgaoengfaaGreatDoorQB13
import Derived.Test.YtplimbgaoengfaaGreatDoorQB14
import Derived.Test.YtplimbgaoengfaaGreatDoorQB15
import Derived.Test.YtplimbgaoengfaaGreatDoorQB16
import Derived.Test.YtplimbgaoengfaaGreatDoorQB17
import Derived.Test.YtplimbgaoengfaaGreatDoorQB18
import Derived.Test.YtplimbgaoengfaaGreatDoorQB19
import Derived.Test.YtplimbgaoengfaaGreatDoorQB20
import Derived.Test.YtplimbgaoengfaaGreatDoorQB21
import Derived.Test.YtplimbgaoengfaaGreatDoorQB22
import Derived.Test.YtplimbgaoengfaaGreatDoorQB23
import Derived.Test.YtplimbgaoengfaaGreatDoorQB24
import Derived.Test.YtplimbgaoengfaaGreatDoorQB25
import Derived.Test.YtplimbgaoengfaaGreatDoorQB26
import Derived.Test.YtplimbgaoengfaaGreatDoorQB27
import Derived.Test.YtplimbgaoengfaaGreatDoorQB28
import Derived.Test.YtplimbgaoengfaaGreatDoorQB29
import Derived.Test.YtplimbgaoengfaaGreatDoorQB31
import Derived.Test.YtplimbgaoengfaaGreatDoorQB44
import Derived.Test.YtplimbgaoengfaaGreatDoorQB50
import Derived.Test.YtplimbgaoengfaaGreatDoorQB51
import Derived.Test.YtplimbgaoengfaaGreatDoorQB52
namespace Go.Proofs.YtplimbgaoengfaaGreatDoor
open Go Go.RowKit
set_option linter.unusedVariables false
theorem qs_three : qs 3 = ⟨#[51]⟩ := by decide +kernel
theorem rmul3_c (q : Rat) {k : Nat} (w : World) (g : Gd w) (hq : QB k q) (hk : k ≤ 3000) : Calls Tryz.prog 15 #[.string (qs q), .string ⟨#[51]⟩] w (Ret w (.string (qs (q * 3)))) := by
  have h := rmul_c q 3 w g hq (⟨by decide, by decide⟩ : QB 1 3) hk (by decide)
  rwa [qs_three] at h
theorem rneg_neg (q : Rat) {k : Nat} (w : World) (hq : QB k q) (hk : k ≤ 9000) : Calls Tryz.prog 29 #[.string (qs (-q))] w (Ret w (.string (qs q))) := by
  have := rneg_c (-q) w hq.neg hk
  rwa [Rat.neg_neg] at this
theorem sgn_mul3 (q : Rat) : (q * 3).num.sign = q.num.sign := by
  rcases sgn3 q with h | h | h
  · rw [h]; apply Int.sign_eq_neg_one_of_neg; apply rnum_neg.2; have := rnum_neg.1 (Int.sign_eq_neg_one_iff_neg.1 h); grind
  · rw [h, sgn0 h, Rat.zero_mul]; rfl
  · rw [h]; apply Int.sign_eq_one_of_pos; apply rnum_pos.2; have := sgn_pos h; grind
theorem qcmp_lt9 {a b : Rat} : qcmp a b < 0 ↔ a < b := by
  unfold qcmp
  by_cases h : a < b
  · rw [if_pos h]; simp [h]
  · rw [if_neg h]
    constructor
    · intro e; split at e <;> omega
    · intro e; exact absurd e h
def quad (x y : Rat) : Int × Rat × Rat :=
  if 0 ≤ x.num.sign ∧ 0 < y.num.sign then (0, x, y) else if 0 < x.num.sign ∧ y.num.sign ≤ 0 then (2, -y, x) else if x.num.sign ≤ 0 ∧ y.num.sign < 0 then (4, -x, -y) else (6, y, -x)
def octo (p : Int × Rat × Rat) : Int × Rat := if p.2.1 < p.2.2 then (p.1, p.2.1 / p.2.2) else (p.1 + 1, p.2.2 / p.2.1)
def cq (x y : Rat) : Int × Rat := octo (quad x y)
theorem octo_lt {k : Int} {a b : Rat} (h : qcmp a b < 0) : octo (k, a, b) = (k, a / b) := by unfold octo; exact if_pos (qcmp_lt9.1 h)
theorem octo_ge {k : Int} {a b : Rat} (h : ¬ qcmp a b < 0) : octo (k, a, b) = (k + 1, b / a) := by unfold octo; exact if_neg (fun e => h (qcmp_lt9.2 e))
theorem octo_three (k : Int) (a b : Rat) : octo (k, a * 3, b * 3) = octo (k, a, b) := by
  have e : ∀ a b : Rat, a * 3 / (b * 3) = a / b := fun a b => by
    by_cases hb : b = 0
    · subst hb; rw [Rat.zero_mul, Rat.div_def, Rat.div_def]; simp
    · have h3 : b * 3 ≠ 0 := by intro h; rcases Rat.mul_eq_zero.1 h with h | h
                                · exact hb h
                                · exact absurd h (by decide)
      grind
  unfold octo
  simp only [e]
  by_cases h : a < b
  · rw [if_pos h, if_pos (by grind)]
  · rw [if_neg h, if_neg (by grind)]
theorem quad_mm {x y : Rat} (hx : x.num.sign = -1) (hy : y.num.sign = -1) : quad x y = (4, -x, -y) := by unfold quad; rw [hx, hy]; rfl
theorem quad_mz {x y : Rat} (hx : x.num.sign = -1) (hy : y.num.sign = 0) : quad x y = (6, y, -x) := by unfold quad; rw [hx, hy]; rfl
theorem quad_mp {x y : Rat} (hx : x.num.sign = -1) (hy : y.num.sign = 1) : quad x y = (6, y, -x) := by unfold quad; rw [hx, hy]; rfl
theorem quad_zm {x y : Rat} (hx : x.num.sign = 0) (hy : y.num.sign = -1) : quad x y = (4, -x, -y) := by unfold quad; rw [hx, hy]; rfl
theorem quad_zp {x y : Rat} (hx : x.num.sign = 0) (hy : y.num.sign = 1) : quad x y = (0, x, y) := by unfold quad; rw [hx, hy]; rfl
theorem quad_pm {x y : Rat} (hx : x.num.sign = 1) (hy : y.num.sign = -1) : quad x y = (2, -y, x) := by unfold quad; rw [hx, hy]; rfl
theorem quad_pz {x y : Rat} (hx : x.num.sign = 1) (hy : y.num.sign = 0) : quad x y = (2, -y, x) := by unfold quad; rw [hx, hy]; rfl
theorem quad_pp {x y : Rat} (hx : x.num.sign = 1) (hy : y.num.sign = 1) : quad x y = (0, x, y) := by unfold quad; rw [hx, hy]; rfl

theorem cq_three (x y : Rat) (h : ¬ (x = 0 ∧ y = 0)) : cq (x * 3) (y * 3) = cq x y := by
  unfold cq
  have n3 : ∀ q : Rat, -(q * 3) = -q * 3 := fun q => by grind
  rcases sgn3 x with hx | hx | hx <;> rcases sgn3 y with hy | hy | hy
  · rw [quad_mm hx hy, quad_mm ((sgn_mul3 x).trans hx) ((sgn_mul3 y).trans hy)]; try simp only [n3]
    exact octo_three _ _ _
  · rw [quad_mz hx hy, quad_mz ((sgn_mul3 x).trans hx) ((sgn_mul3 y).trans hy)]; try simp only [n3]
    exact octo_three _ _ _
  · rw [quad_mp hx hy, quad_mp ((sgn_mul3 x).trans hx) ((sgn_mul3 y).trans hy)]; try simp only [n3]
    exact octo_three _ _ _
  · rw [quad_zm hx hy, quad_zm ((sgn_mul3 x).trans hx) ((sgn_mul3 y).trans hy)]; try simp only [n3]
    exact octo_three _ _ _
  · exact absurd ⟨sgn0 hx, sgn0 hy⟩ h
  · rw [quad_zp hx hy, quad_zp ((sgn_mul3 x).trans hx) ((sgn_mul3 y).trans hy)]; try simp only [n3]
    exact octo_three _ _ _
  · rw [quad_pm hx hy, quad_pm ((sgn_mul3 x).trans hx) ((sgn_mul3 y).trans hy)]; try simp only [n3]
    exact octo_three _ _ _
  · rw [quad_pz hx hy, quad_pz ((sgn_mul3 x).trans hx) ((sgn_mul3 y).trans hy)]; try simp only [n3]
    exact octo_three _ _ _
  · rw [quad_pp hx hy, quad_pp ((sgn_mul3 x).trans hx) ((sgn_mul3 y).trans hy)]; try simp only [n3]
    exact octo_three _ _ _

set_option maxRecDepth 100000 in
set_option maxHeartbeats 4000000 in
theorem aof_mm_lt (n : P2) (w : World) (g : Gd w) (hn : PB 26 n) (hz : ¬ (n.x = 0 ∧ n.y = 0)) (hsx : n.x.num.sign = -1) (hsy : n.y.num.sign = -1) (hc : qcmp (-n.x) (-n.y) < 0) : Calls Tryz.prog 13 #[.agg #[.string (qs n.x), .string (qs n.y)]] w (Ret w (.tuple #[.agg #[.int .i64 4, .string (qs (-n.x / -n.y))], .int .i64 0])) := by
  have HN := Lib.hid hn
  have HZ := Lib.hid hz
  have HSX := Lib.hid hsx
  have HSY := Lib.hid hsy
  have HG := Lib.hid g
  clear hn hz hsx hsy g
  have HSNX : Hid ((-n.x).num.sign = 1) := Lib.hid (sgn_neg HSX.out (by decide)); have HSNY : Hid ((-n.y).num.sign = 1) := Lib.hid (sgn_neg HSY.out (by decide))
  have hc_d : decide (0 ≤ qcmp (-n.x) (-n.y)) = false := decide_eq_false (by omega)
  clear hc
  go_enter Tryz.func13, Tryz.ntmps13
  go_wp2_with fail
  refine (ahead_ok n _ (HG.out.ext (((Ext.refl w).alloc _).alloc _)) (HN.out.mono (by decide)) HZ.out).mono ?_; rintro e w1 ⟨rfl, e1⟩
  have HX1 : Hid (Ext w w1) := Lib.hid ((((Ext.refl w).alloc _).alloc _).trans e1)
  have HB0_1 : Hid (Blk w1 (w.heap.size) #[.string (qs n.x), .string (qs n.y)] 24) := Lib.hid (Blk.ext ((Blk.new' (w := _) (cs := #[.string (qs n.x), .string (qs n.y)]) (t := 24) (by first | rfl | (simp only [World.size_alloc]; done) | (simp only [World.size_alloc]; omega) | simp)).alloc _) e1)
  have HB1_1 : Hid (Blk w1 (w.heap.size + 1) #[.int .i64 0, .string ⟨#[]⟩] 28) := Lib.hid (Blk.ext (Blk.new' (w := _) (cs := #[.int .i64 0, .string ⟨#[]⟩]) (t := 28) (by first | rfl | (simp only [World.size_alloc]; done) | (simp only [World.size_alloc]; omega) | simp)) e1)
  have HGEB0 : Hid (w.heap.size ≤ w.heap.size) := Lib.hid (by first | omega | (simp only []; omega) | (simp; omega))
  have HGEB1 : Hid (w.heap.size ≤ w.heap.size + 1) := Lib.hid (by first | omega | (simp only []; omega) | (simp; omega))
  clear e1
  go_wp2_with fail
  refine wp_name (fun W => Ext w W ∧ Blk W (w.heap.size) #[.string (qs n.x), .string (qs n.y)] 24 ∧ Blk W (w.heap.size + 1) #[.int .i64 0, .string ⟨#[]⟩] 28) ⟨HX1.out, HB0_1.out, HB1_1.out⟩ ?_
  rintro w2 ⟨e2, bB0_2, bB1_2⟩
  have HX2 := Lib.hid e2; have HB0_2 := Lib.hid bB0_2; have HB1_2 := Lib.hid bB1_2
  clear e2 bB0_2 bB1_2
  refine region_lin [.val (.pointer (some ⟨w.heap.size, 0, none⟩)), .val (.string (qs n.x)), .val (.pointer (some ⟨w.heap.size, 1, none⟩)), .val (.string (qs n.y)), .val (.string (qs n.x)), .val (.string (qs n.y))] (by kernel_rfl) (by kernel_rfl) (by kernel_rfl) ?_ (fun g2 w3 hx_ hm_ hne_ => ?_)
  · skip
    refine RnL.cons (fun g2 A_ W_ hs_ => ?_) ?_
    · have q1_ := (hs_.old 1 (by kernel_rfl) : A_.tmps[1]?.getD undef = .pointer (some ⟨w.heap.size, 0, none⟩))
      refine Rn.val fun K_ hK_ => ?_
      go_simp
      exact hK_.out _ (Ext.refl _)
    refine RnL.cons (fun g2 A_ W_ hs_ => ?_) ?_
    · have q18_ := hs_.val 0 rfl rfl rfl
      have cB0_0 := ((HB0_2.out.drew.ext hs_.1)).cell 0 rfl
      refine Rn.val fun K_ hK_ => ?_
      go_simp
      exact hK_.out _ (Ext.refl _)
    refine RnL.cons (fun g2 A_ W_ hs_ => ?_) ?_
    · have q1_ := (hs_.old 1 (by kernel_rfl) : A_.tmps[1]?.getD undef = .pointer (some ⟨w.heap.size, 0, none⟩))
      refine Rn.val fun K_ hK_ => ?_
      go_simp
      exact hK_.out _ (Ext.refl _)
    refine RnL.cons (fun g2 A_ W_ hs_ => ?_) ?_
    · have q20_ := hs_.val 2 rfl rfl rfl
      have cB0_1 := ((HB0_2.out.drew.ext hs_.1)).cell 1 rfl
      refine Rn.val fun K_ hK_ => ?_
      go_simp
      exact hK_.out _ (Ext.refl _)
    refine RnL.cons (fun g2 A_ W_ hs_ => ?_) ?_
    · have q19_ := hs_.val 1 rfl rfl rfl
      refine Rn.val fun K_ hK_ => ?_
      go_simp
      exact hK_.out _ (Ext.refl _)
    refine RnL.cons (fun g2 A_ W_ hs_ => ?_) ?_
    · have q21_ := hs_.val 3 rfl rfl rfl
      refine Rn.val fun K_ hK_ => ?_
      go_simp
      exact hK_.out _ (Ext.refl _)
    exact RnL.nil
  simp only [fs, Kd.value, puts, Act.put, List.setIfInBounds_toArray, List.set_cons_zero, List.set_cons_succ]
  have HX3 : Hid (Ext w w3) := Lib.hid (HX2.out.drew.trans hx_)
  have HB1_3 := Lib.hid (HB1_2.out.drew.ext hx_)
  clear hx_ hm_ hne_
  go_wp2_with fail
  refine wp_loop_rounds 3 ?_
  rw [rounds_succ]
  go_wp2_with fail
  refine ((HSX.out ▸ rsign_c n.x _)).mono ?_; rintro e _ ⟨rfl, rfl⟩
  go_wp2_with fail
  refine (rneg_c n.y _ HN.out.y (by omega)).mono ?_; rintro e w4 ⟨rfl, e4⟩
  have HX4 : Hid (Ext w w4) := Lib.hid (HX3.out.trans e4)
  have HB1_4 := Lib.hid (Blk.ext HB1_3.out e4)
  clear e4
  go_wp2_with fail
  rw [rounds_succ]
  go_wp2_with fail
  refine ((HSNY.out ▸ rsign_c (-n.y) _)).mono ?_; rintro e _ ⟨rfl, rfl⟩
  go_wp2_with fail
  refine ((HSX.out ▸ rsign_c n.x _)).mono ?_; rintro e _ ⟨rfl, rfl⟩
  go_wp2_with fail
  refine (rneg_c n.x _ HN.out.x (by omega)).mono ?_; rintro e w5 ⟨rfl, e5⟩
  have HX5 : Hid (Ext w w5) := Lib.hid (HX4.out.trans e5)
  have HB1_5 := Lib.hid (Blk.ext HB1_4.out e5)
  clear e5
  go_wp2_with fail
  rw [rounds_succ]
  go_wp2_with fail
  refine ((HSNX.out ▸ rsign_c (-n.x) _)).mono ?_; rintro e _ ⟨rfl, rfl⟩
  go_wp2_with fail
  refine ((HSNY.out ▸ rsign_c (-n.y) _)).mono ?_; rintro e _ ⟨rfl, rfl⟩
  go_wp2_with fail
  refine (rcompare_c (-n.x) (-n.y) _ (HG.out.ext HX5.out) HN.out.x.neg HN.out.y.neg (by omega) (by omega)).mono ?_; rintro e w6 ⟨rfl, e6⟩
  have HX6 : Hid (Ext w w6) := Lib.hid (HX5.out.trans e6)
  have HB1_6 := Lib.hid (Blk.ext HB1_5.out e6)
  clear e6
  go_wp2_with fail
  refine (over_c (-n.x) (-n.y) _ (HG.out.ext HX6.out) HN.out.x.neg HN.out.y.neg (by omega) (by omega) (by omega) (ne_of_sgn HSNY.out)).mono ?_; rintro e w7 ⟨rfl, e7⟩
  have HX7 : Hid (Ext w w7) := Lib.hid (HX6.out.trans e7)
  have HB1_7 := Lib.hid (Blk.ext HB1_6.out e7)
  clear e7
  go_wp2_with fail
  refine (anum_ok (-n.x / -n.y) _ (HG.out.ext HX7.out) ((HN.out.x.neg.div HN.out.y.neg (by decide)).mono (by decide))).mono ?_; rintro e w8 ⟨rfl, e8⟩
  have HX8 : Hid (Ext w w8) := Lib.hid (HX7.out.trans e8)
  have HB1_8 := Lib.hid (Blk.ext HB1_7.out e8)
  clear e8
  have c1_0 := HB1_8.out.cell 0 rfl
  have f1_0 := HB1_8.out.free 0
  have c1_1 := HB1_8.out.cell 1 rfl
  have f1_1 := HB1_8.out.free 1
  go_wp2_with fail
  refine wp_name (fun W => Ext w W ∧ Blk W (w.heap.size + 1) #[.int .i64 4, .string (qs (-n.x / -n.y))] 28) ⟨((HX8.out.setCell (by have := HGEB1.out; first | omega | (simp only []; omega) | (simp; omega)) _).setCell (by have := HGEB1.out; first | omega | (simp only []; omega) | (simp; omega)) _), ((HB1_8.out.set 0 (.int .i64 4)).set 1 (.string (qs (-n.x / -n.y))))⟩ ?_
  rintro w9 ⟨e9, bB1_9⟩
  have HX9 := Lib.hid e9; have HB1_9 := Lib.hid bB1_9
  clear e9 bB1_9 c1_0 f1_0 c1_1 f1_1
  have gB1_0 := HB1_9.out.cell 0 rfl
  have gB1_1 := HB1_9.out.cell 1 rfl
  refine bodyPost_ret (v := .tuple #[.agg #[.int .i64 4, .string (qs (-n.x / -n.y))], .int .i64 0]) (by simp [results, Tryz.results13, go_sem, gB1_0, gB1_1]) rfl ⟨rfl, HX9.out⟩

set_option maxRecDepth 100000 in
set_option maxHeartbeats 4000000 in
theorem aof_mm_ge (n : P2) (w : World) (g : Gd w) (hn : PB 26 n) (hz : ¬ (n.x = 0 ∧ n.y = 0)) (hsx : n.x.num.sign = -1) (hsy : n.y.num.sign = -1) (hc : ¬ qcmp (-n.x) (-n.y) < 0) : Calls Tryz.prog 13 #[.agg #[.string (qs n.x), .string (qs n.y)]] w (Ret w (.tuple #[.agg #[.int .i64 5, .string (qs (-n.y / -n.x))], .int .i64 0])) := by
  have HN := Lib.hid hn
  have HZ := Lib.hid hz
  have HSX := Lib.hid hsx
  have HSY := Lib.hid hsy
  have HG := Lib.hid g
  clear hn hz hsx hsy g
  have HSNX : Hid ((-n.x).num.sign = 1) := Lib.hid (sgn_neg HSX.out (by decide)); have HSNY : Hid ((-n.y).num.sign = 1) := Lib.hid (sgn_neg HSY.out (by decide))
  have hc_d : decide (0 ≤ qcmp (-n.x) (-n.y)) = true := decide_eq_true (by omega)
  clear hc
  go_enter Tryz.func13, Tryz.ntmps13
  go_wp2_with fail
  refine (ahead_ok n _ (HG.out.ext (((Ext.refl w).alloc _).alloc _)) (HN.out.mono (by decide)) HZ.out).mono ?_; rintro e w1 ⟨rfl, e1⟩
  have HX1 : Hid (Ext w w1) := Lib.hid ((((Ext.refl w).alloc _).alloc _).trans e1)
  have HB0_1 : Hid (Blk w1 (w.heap.size) #[.string (qs n.x), .string (qs n.y)] 24) := Lib.hid (Blk.ext ((Blk.new' (w := _) (cs := #[.string (qs n.x), .string (qs n.y)]) (t := 24) (by first | rfl | (simp only [World.size_alloc]; done) | (simp only [World.size_alloc]; omega) | simp)).alloc _) e1)
  have HB1_1 : Hid (Blk w1 (w.heap.size + 1) #[.int .i64 0, .string ⟨#[]⟩] 28) := Lib.hid (Blk.ext (Blk.new' (w := _) (cs := #[.int .i64 0, .string ⟨#[]⟩]) (t := 28) (by first | rfl | (simp only [World.size_alloc]; done) | (simp only [World.size_alloc]; omega) | simp)) e1)
  have HGEB0 : Hid (w.heap.size ≤ w.heap.size) := Lib.hid (by first | omega | (simp only []; omega) | (simp; omega))
  have HGEB1 : Hid (w.heap.size ≤ w.heap.size + 1) := Lib.hid (by first | omega | (simp only []; omega) | (simp; omega))
  clear e1
  go_wp2_with fail
  refine wp_name (fun W => Ext w W ∧ Blk W (w.heap.size) #[.string (qs n.x), .string (qs n.y)] 24 ∧ Blk W (w.heap.size + 1) #[.int .i64 0, .string ⟨#[]⟩] 28) ⟨HX1.out, HB0_1.out, HB1_1.out⟩ ?_
  rintro w2 ⟨e2, bB0_2, bB1_2⟩
  have HX2 := Lib.hid e2; have HB0_2 := Lib.hid bB0_2; have HB1_2 := Lib.hid bB1_2
  clear e2 bB0_2 bB1_2
  refine region_lin [.val (.pointer (some ⟨w.heap.size, 0, none⟩)), .val (.string (qs n.x)), .val (.pointer (some ⟨w.heap.size, 1, none⟩)), .val (.string (qs n.y)), .val (.string (qs n.x)), .val (.string (qs n.y))] (by kernel_rfl) (by kernel_rfl) (by kernel_rfl) ?_ (fun g2 w3 hx_ hm_ hne_ => ?_)
  · skip
    refine RnL.cons (fun g2 A_ W_ hs_ => ?_) ?_
    · have q1_ := (hs_.old 1 (by kernel_rfl) : A_.tmps[1]?.getD undef = .pointer (some ⟨w.heap.size, 0, none⟩))
      refine Rn.val fun K_ hK_ => ?_
      go_simp
      exact hK_.out _ (Ext.refl _)
    refine RnL.cons (fun g2 A_ W_ hs_ => ?_) ?_
    · have q18_ := hs_.val 0 rfl rfl rfl
      have cB0_0 := ((HB0_2.out.drew.ext hs_.1)).cell 0 rfl
      refine Rn.val fun K_ hK_ => ?_
      go_simp
      exact hK_.out _ (Ext.refl _)
    refine RnL.cons (fun g2 A_ W_ hs_ => ?_) ?_
    · have q1_ := (hs_.old 1 (by kernel_rfl) : A_.tmps[1]?.getD undef = .pointer (some ⟨w.heap.size, 0, none⟩))
      refine Rn.val fun K_ hK_ => ?_
      go_simp
      exact hK_.out _ (Ext.refl _)
    refine RnL.cons (fun g2 A_ W_ hs_ => ?_) ?_
    · have q20_ := hs_.val 2 rfl rfl rfl
      have cB0_1 := ((HB0_2.out.drew.ext hs_.1)).cell 1 rfl
      refine Rn.val fun K_ hK_ => ?_
      go_simp
      exact hK_.out _ (Ext.refl _)
    refine RnL.cons (fun g2 A_ W_ hs_ => ?_) ?_
    · have q19_ := hs_.val 1 rfl rfl rfl
      refine Rn.val fun K_ hK_ => ?_
      go_simp
      exact hK_.out _ (Ext.refl _)
    refine RnL.cons (fun g2 A_ W_ hs_ => ?_) ?_
    · have q21_ := hs_.val 3 rfl rfl rfl
      refine Rn.val fun K_ hK_ => ?_
      go_simp
      exact hK_.out _ (Ext.refl _)
    exact RnL.nil
  simp only [fs, Kd.value, puts, Act.put, List.setIfInBounds_toArray, List.set_cons_zero, List.set_cons_succ]
  have HX3 : Hid (Ext w w3) := Lib.hid (HX2.out.drew.trans hx_)
  have HB1_3 := Lib.hid (HB1_2.out.drew.ext hx_)
  clear hx_ hm_ hne_
  go_wp2_with fail
  refine wp_loop_rounds 3 ?_
  rw [rounds_succ]
  go_wp2_with fail
  refine ((HSX.out ▸ rsign_c n.x _)).mono ?_; rintro e _ ⟨rfl, rfl⟩
  go_wp2_with fail
  refine (rneg_c n.y _ HN.out.y (by omega)).mono ?_; rintro e w4 ⟨rfl, e4⟩
  have HX4 : Hid (Ext w w4) := Lib.hid (HX3.out.trans e4)
  have HB1_4 := Lib.hid (Blk.ext HB1_3.out e4)
  clear e4
  go_wp2_with fail
  rw [rounds_succ]
  go_wp2_with fail
  refine ((HSNY.out ▸ rsign_c (-n.y) _)).mono ?_; rintro e _ ⟨rfl, rfl⟩
  go_wp2_with fail
  refine ((HSX.out ▸ rsign_c n.x _)).mono ?_; rintro e _ ⟨rfl, rfl⟩
  go_wp2_with fail
  refine (rneg_c n.x _ HN.out.x (by omega)).mono ?_; rintro e w5 ⟨rfl, e5⟩
  have HX5 : Hid (Ext w w5) := Lib.hid (HX4.out.trans e5)
  have HB1_5 := Lib.hid (Blk.ext HB1_4.out e5)
  clear e5
  go_wp2_with fail
  rw [rounds_succ]
  go_wp2_with fail
  refine ((HSNX.out ▸ rsign_c (-n.x) _)).mono ?_; rintro e _ ⟨rfl, rfl⟩
  go_wp2_with fail
  refine ((HSNY.out ▸ rsign_c (-n.y) _)).mono ?_; rintro e _ ⟨rfl, rfl⟩
  go_wp2_with fail
  refine (rcompare_c (-n.x) (-n.y) _ (HG.out.ext HX5.out) HN.out.x.neg HN.out.y.neg (by omega) (by omega)).mono ?_; rintro e w6 ⟨rfl, e6⟩
  have HX6 : Hid (Ext w w6) := Lib.hid (HX5.out.trans e6)
  have HB1_6 := Lib.hid (Blk.ext HB1_5.out e6)
  clear e6
  go_wp2_with fail
  refine (over_c (-n.y) (-n.x) _ (HG.out.ext HX6.out) HN.out.y.neg HN.out.x.neg (by omega) (by omega) (by omega) (ne_of_sgn HSNX.out)).mono ?_; rintro e w7 ⟨rfl, e7⟩
  have HX7 : Hid (Ext w w7) := Lib.hid (HX6.out.trans e7)
  have HB1_7 := Lib.hid (Blk.ext HB1_6.out e7)
  clear e7
  go_wp2_with fail
  refine (anum_ok (-n.y / -n.x) _ (HG.out.ext HX7.out) ((HN.out.y.neg.div HN.out.x.neg (by decide)).mono (by decide))).mono ?_; rintro e w8 ⟨rfl, e8⟩
  have HX8 : Hid (Ext w w8) := Lib.hid (HX7.out.trans e8)
  have HB1_8 := Lib.hid (Blk.ext HB1_7.out e8)
  clear e8
  have c1_0 := HB1_8.out.cell 0 rfl
  have f1_0 := HB1_8.out.free 0
  have c1_1 := HB1_8.out.cell 1 rfl
  have f1_1 := HB1_8.out.free 1
  go_wp2_with fail
  refine wp_name (fun W => Ext w W ∧ Blk W (w.heap.size + 1) #[.int .i64 5, .string (qs (-n.y / -n.x))] 28) ⟨((HX8.out.setCell (by have := HGEB1.out; first | omega | (simp only []; omega) | (simp; omega)) _).setCell (by have := HGEB1.out; first | omega | (simp only []; omega) | (simp; omega)) _), ((HB1_8.out.set 0 (.int .i64 5)).set 1 (.string (qs (-n.y / -n.x))))⟩ ?_
  rintro w9 ⟨e9, bB1_9⟩
  have HX9 := Lib.hid e9; have HB1_9 := Lib.hid bB1_9
  clear e9 bB1_9 c1_0 f1_0 c1_1 f1_1
  have gB1_0 := HB1_9.out.cell 0 rfl
  have gB1_1 := HB1_9.out.cell 1 rfl
  refine bodyPost_ret (v := .tuple #[.agg #[.int .i64 5, .string (qs (-n.y / -n.x))], .int .i64 0]) (by simp [results, Tryz.results13, go_sem, gB1_0, gB1_1]) rfl ⟨rfl, HX9.out⟩

set_option maxRecDepth 100000 in
set_option maxHeartbeats 4000000 in
theorem aof_mz_lt (n : P2) (w : World) (g : Gd w) (hn : PB 26 n) (hz : ¬ (n.x = 0 ∧ n.y = 0)) (hsx : n.x.num.sign = -1) (hsy : n.y.num.sign = 0) (hc : qcmp n.y (-n.x) < 0) : Calls Tryz.prog 13 #[.agg #[.string (qs n.x), .string (qs n.y)]] w (Ret w (.tuple #[.agg #[.int .i64 6, .string (qs (n.y / -n.x))], .int .i64 0])) := by
  have HN := Lib.hid hn
  have HZ := Lib.hid hz
  have HSX := Lib.hid hsx
  have HSY := Lib.hid hsy
  have HG := Lib.hid g
  clear hn hz hsx hsy g
  have HSNX : Hid ((-n.x).num.sign = 1) := Lib.hid (sgn_neg HSX.out (by decide)); have HSNY : Hid ((-n.y).num.sign = 0) := Lib.hid (sgn_neg HSY.out (by decide))
  have hc_d : decide (0 ≤ qcmp n.y (-n.x)) = false := decide_eq_false (by omega)
  clear hc
  go_enter Tryz.func13, Tryz.ntmps13
  go_wp2_with fail
  refine (ahead_ok n _ (HG.out.ext (((Ext.refl w).alloc _).alloc _)) (HN.out.mono (by decide)) HZ.out).mono ?_; rintro e w1 ⟨rfl, e1⟩
  have HX1 : Hid (Ext w w1) := Lib.hid ((((Ext.refl w).alloc _).alloc _).trans e1)
  have HB0_1 : Hid (Blk w1 (w.heap.size) #[.string (qs n.x), .string (qs n.y)] 24) := Lib.hid (Blk.ext ((Blk.new' (w := _) (cs := #[.string (qs n.x), .string (qs n.y)]) (t := 24) (by first | rfl | (simp only [World.size_alloc]; done) | (simp only [World.size_alloc]; omega) | simp)).alloc _) e1)
  have HB1_1 : Hid (Blk w1 (w.heap.size + 1) #[.int .i64 0, .string ⟨#[]⟩] 28) := Lib.hid (Blk.ext (Blk.new' (w := _) (cs := #[.int .i64 0, .string ⟨#[]⟩]) (t := 28) (by first | rfl | (simp only [World.size_alloc]; done) | (simp only [World.size_alloc]; omega) | simp)) e1)
  have HGEB0 : Hid (w.heap.size ≤ w.heap.size) := Lib.hid (by first | omega | (simp only []; omega) | (simp; omega))
  have HGEB1 : Hid (w.heap.size ≤ w.heap.size + 1) := Lib.hid (by first | omega | (simp only []; omega) | (simp; omega))
  clear e1
  go_wp2_with fail
  refine wp_name (fun W => Ext w W ∧ Blk W (w.heap.size) #[.string (qs n.x), .string (qs n.y)] 24 ∧ Blk W (w.heap.size + 1) #[.int .i64 0, .string ⟨#[]⟩] 28) ⟨HX1.out, HB0_1.out, HB1_1.out⟩ ?_
  rintro w2 ⟨e2, bB0_2, bB1_2⟩
  have HX2 := Lib.hid e2; have HB0_2 := Lib.hid bB0_2; have HB1_2 := Lib.hid bB1_2
  clear e2 bB0_2 bB1_2
  refine region_lin [.val (.pointer (some ⟨w.heap.size, 0, none⟩)), .val (.string (qs n.x)), .val (.pointer (some ⟨w.heap.size, 1, none⟩)), .val (.string (qs n.y)), .val (.string (qs n.x)), .val (.string (qs n.y))] (by kernel_rfl) (by kernel_rfl) (by kernel_rfl) ?_ (fun g2 w3 hx_ hm_ hne_ => ?_)
  · skip
    refine RnL.cons (fun g2 A_ W_ hs_ => ?_) ?_
    · have q1_ := (hs_.old 1 (by kernel_rfl) : A_.tmps[1]?.getD undef = .pointer (some ⟨w.heap.size, 0, none⟩))
      refine Rn.val fun K_ hK_ => ?_
      go_simp
      exact hK_.out _ (Ext.refl _)
    refine RnL.cons (fun g2 A_ W_ hs_ => ?_) ?_
    · have q18_ := hs_.val 0 rfl rfl rfl
      have cB0_0 := ((HB0_2.out.drew.ext hs_.1)).cell 0 rfl
      refine Rn.val fun K_ hK_ => ?_
      go_simp
      exact hK_.out _ (Ext.refl _)
    refine RnL.cons (fun g2 A_ W_ hs_ => ?_) ?_
    · have q1_ := (hs_.old 1 (by kernel_rfl) : A_.tmps[1]?.getD undef = .pointer (some ⟨w.heap.size, 0, none⟩))
      refine Rn.val fun K_ hK_ => ?_
      go_simp
      exact hK_.out _ (Ext.refl _)
    refine RnL.cons (fun g2 A_ W_ hs_ => ?_) ?_
    · have q20_ := hs_.val 2 rfl rfl rfl
      have cB0_1 := ((HB0_2.out.drew.ext hs_.1)).cell 1 rfl
      refine Rn.val fun K_ hK_ => ?_
      go_simp
      exact hK_.out _ (Ext.refl _)
    refine RnL.cons (fun g2 A_ W_ hs_ => ?_) ?_
    · have q19_ := hs_.val 1 rfl rfl rfl
      refine Rn.val fun K_ hK_ => ?_
      go_simp
      exact hK_.out _ (Ext.refl _)
    refine RnL.cons (fun g2 A_ W_ hs_ => ?_) ?_
    · have q21_ := hs_.val 3 rfl rfl rfl
      refine Rn.val fun K_ hK_ => ?_
      go_simp
      exact hK_.out _ (Ext.refl _)
    exact RnL.nil
  simp only [fs, Kd.value, puts, Act.put, List.setIfInBounds_toArray, List.set_cons_zero, List.set_cons_succ]
  have HX3 : Hid (Ext w w3) := Lib.hid (HX2.out.drew.trans hx_)
  have HB1_3 := Lib.hid (HB1_2.out.drew.ext hx_)
  clear hx_ hm_ hne_
  go_wp2_with fail
  refine wp_loop_rounds 4 ?_
  rw [rounds_succ]
  go_wp2_with fail
  refine ((HSX.out ▸ rsign_c n.x _)).mono ?_; rintro e _ ⟨rfl, rfl⟩
  go_wp2_with fail
  refine (rneg_c n.y _ HN.out.y (by omega)).mono ?_; rintro e w4 ⟨rfl, e4⟩
  have HX4 : Hid (Ext w w4) := Lib.hid (HX3.out.trans e4)
  have HB1_4 := Lib.hid (Blk.ext HB1_3.out e4)
  clear e4
  go_wp2_with fail
  rw [rounds_succ]
  go_wp2_with fail
  refine ((HSNY.out ▸ rsign_c (-n.y) _)).mono ?_; rintro e _ ⟨rfl, rfl⟩
  go_wp2_with fail
  refine ((HSX.out ▸ rsign_c n.x _)).mono ?_; rintro e _ ⟨rfl, rfl⟩
  go_wp2_with fail
  refine (rneg_c n.x _ HN.out.x (by omega)).mono ?_; rintro e w5 ⟨rfl, e5⟩
  have HX5 : Hid (Ext w w5) := Lib.hid (HX4.out.trans e5)
  have HB1_5 := Lib.hid (Blk.ext HB1_4.out e5)
  clear e5
  go_wp2_with fail
  rw [rounds_succ]
  go_wp2_with fail
  refine ((HSNX.out ▸ rsign_c (-n.x) _)).mono ?_; rintro e _ ⟨rfl, rfl⟩
  go_wp2_with fail
  refine ((HSNY.out ▸ rsign_c (-n.y) _)).mono ?_; rintro e _ ⟨rfl, rfl⟩
  go_wp2_with fail
  refine (rneg_neg n.y _ HN.out.y (by decide)).mono ?_; rintro e w6 ⟨rfl, e6⟩
  have HX6 : Hid (Ext w w6) := Lib.hid (HX5.out.trans e6)
  have HB1_6 := Lib.hid (Blk.ext HB1_5.out e6)
  clear e6
  go_wp2_with fail
  rw [rounds_succ]
  go_wp2_with fail
  refine ((HSY.out ▸ rsign_c n.y _)).mono ?_; rintro e _ ⟨rfl, rfl⟩
  go_wp2_with fail
  refine ((HSNX.out ▸ rsign_c (-n.x) _)).mono ?_; rintro e _ ⟨rfl, rfl⟩
  go_wp2_with fail
  refine (rcompare_c n.y (-n.x) _ (HG.out.ext HX6.out) HN.out.y HN.out.x.neg (by omega) (by omega)).mono ?_; rintro e w7 ⟨rfl, e7⟩
  have HX7 : Hid (Ext w w7) := Lib.hid (HX6.out.trans e7)
  have HB1_7 := Lib.hid (Blk.ext HB1_6.out e7)
  clear e7
  go_wp2_with fail
  refine (over_c n.y (-n.x) _ (HG.out.ext HX7.out) HN.out.y HN.out.x.neg (by omega) (by omega) (by omega) (ne_of_sgn HSNX.out)).mono ?_; rintro e w8 ⟨rfl, e8⟩
  have HX8 : Hid (Ext w w8) := Lib.hid (HX7.out.trans e8)
  have HB1_8 := Lib.hid (Blk.ext HB1_7.out e8)
  clear e8
  go_wp2_with fail
  refine (anum_ok (n.y / -n.x) _ (HG.out.ext HX8.out) ((HN.out.y.div HN.out.x.neg (by decide)).mono (by decide))).mono ?_; rintro e w9 ⟨rfl, e9⟩
  have HX9 : Hid (Ext w w9) := Lib.hid (HX8.out.trans e9)
  have HB1_9 := Lib.hid (Blk.ext HB1_8.out e9)
  clear e9
  have c1_0 := HB1_9.out.cell 0 rfl
  have f1_0 := HB1_9.out.free 0
  have c1_1 := HB1_9.out.cell 1 rfl
  have f1_1 := HB1_9.out.free 1
  go_wp2_with fail
  refine wp_name (fun W => Ext w W ∧ Blk W (w.heap.size + 1) #[.int .i64 6, .string (qs (n.y / -n.x))] 28) ⟨((HX9.out.setCell (by have := HGEB1.out; first | omega | (simp only []; omega) | (simp; omega)) _).setCell (by have := HGEB1.out; first | omega | (simp only []; omega) | (simp; omega)) _), ((HB1_9.out.set 0 (.int .i64 6)).set 1 (.string (qs (n.y / -n.x))))⟩ ?_
  rintro w10 ⟨e10, bB1_10⟩
  have HX10 := Lib.hid e10; have HB1_10 := Lib.hid bB1_10
  clear e10 bB1_10 c1_0 f1_0 c1_1 f1_1
  have gB1_0 := HB1_10.out.cell 0 rfl
  have gB1_1 := HB1_10.out.cell 1 rfl
  refine bodyPost_ret (v := .tuple #[.agg #[.int .i64 6, .string (qs (n.y / -n.x))], .int .i64 0]) (by simp [results, Tryz.results13, go_sem, gB1_0, gB1_1]) rfl ⟨rfl, HX10.out⟩

set_option maxRecDepth 100000 in
set_option maxHeartbeats 4000000 in
theorem aof_mp_lt (n : P2) (w : World) (g : Gd w) (hn : PB 26 n) (hz : ¬ (n.x = 0 ∧ n.y = 0)) (hsx : n.x.num.sign = -1) (hsy : n.y.num.sign = 1) (hc : qcmp n.y (-n.x) < 0) : Calls Tryz.prog 13 #[.agg #[.string (qs n.x), .string (qs n.y)]] w (Ret w (.tuple #[.agg #[.int .i64 6, .string (qs (n.y / -n.x))], .int .i64 0])) := by
  have HN := Lib.hid hn
  have HZ := Lib.hid hz
  have HSX := Lib.hid hsx
  have HSY := Lib.hid hsy
  have HG := Lib.hid g
  clear hn hz hsx hsy g
  have HSNX : Hid ((-n.x).num.sign = 1) := Lib.hid (sgn_neg HSX.out (by decide)); have HSNY : Hid ((-n.y).num.sign = -1) := Lib.hid (sgn_neg HSY.out (by decide))
  have hc_d : decide (0 ≤ qcmp n.y (-n.x)) = false := decide_eq_false (by omega)
  clear hc
  go_enter Tryz.func13, Tryz.ntmps13
  go_wp2_with fail
  refine (ahead_ok n _ (HG.out.ext (((Ext.refl w).alloc _).alloc _)) (HN.out.mono (by decide)) HZ.out).mono ?_; rintro e w1 ⟨rfl, e1⟩
  have HX1 : Hid (Ext w w1) := Lib.hid ((((Ext.refl w).alloc _).alloc _).trans e1)
  have HB0_1 : Hid (Blk w1 (w.heap.size) #[.string (qs n.x), .string (qs n.y)] 24) := Lib.hid (Blk.ext ((Blk.new' (w := _) (cs := #[.string (qs n.x), .string (qs n.y)]) (t := 24) (by first | rfl | (simp only [World.size_alloc]; done) | (simp only [World.size_alloc]; omega) | simp)).alloc _) e1)
  have HB1_1 : Hid (Blk w1 (w.heap.size + 1) #[.int .i64 0, .string ⟨#[]⟩] 28) := Lib.hid (Blk.ext (Blk.new' (w := _) (cs := #[.int .i64 0, .string ⟨#[]⟩]) (t := 28) (by first | rfl | (simp only [World.size_alloc]; done) | (simp only [World.size_alloc]; omega) | simp)) e1)
  have HGEB0 : Hid (w.heap.size ≤ w.heap.size) := Lib.hid (by first | omega | (simp only []; omega) | (simp; omega))
  have HGEB1 : Hid (w.heap.size ≤ w.heap.size + 1) := Lib.hid (by first | omega | (simp only []; omega) | (simp; omega))
  clear e1
  go_wp2_with fail
  refine wp_name (fun W => Ext w W ∧ Blk W (w.heap.size) #[.string (qs n.x), .string (qs n.y)] 24 ∧ Blk W (w.heap.size + 1) #[.int .i64 0, .string ⟨#[]⟩] 28) ⟨HX1.out, HB0_1.out, HB1_1.out⟩ ?_
  rintro w2 ⟨e2, bB0_2, bB1_2⟩
  have HX2 := Lib.hid e2; have HB0_2 := Lib.hid bB0_2; have HB1_2 := Lib.hid bB1_2
  clear e2 bB0_2 bB1_2
  refine region_lin [.val (.pointer (some ⟨w.heap.size, 0, none⟩)), .val (.string (qs n.x)), .val (.pointer (some ⟨w.heap.size, 1, none⟩)), .val (.string (qs n.y)), .val (.string (qs n.x)), .val (.string (qs n.y))] (by kernel_rfl) (by kernel_rfl) (by kernel_rfl) ?_ (fun g2 w3 hx_ hm_ hne_ => ?_)
  · skip
    refine RnL.cons (fun g2 A_ W_ hs_ => ?_) ?_
    · have q1_ := (hs_.old 1 (by kernel_rfl) : A_.tmps[1]?.getD undef = .pointer (some ⟨w.heap.size, 0, none⟩))
      refine Rn.val fun K_ hK_ => ?_
      go_simp
      exact hK_.out _ (Ext.refl _)
    refine RnL.cons (fun g2 A_ W_ hs_ => ?_) ?_
    · have q18_ := hs_.val 0 rfl rfl rfl
      have cB0_0 := ((HB0_2.out.drew.ext hs_.1)).cell 0 rfl
      refine Rn.val fun K_ hK_ => ?_
      go_simp
      exact hK_.out _ (Ext.refl _)
    refine RnL.cons (fun g2 A_ W_ hs_ => ?_) ?_
    · have q1_ := (hs_.old 1 (by kernel_rfl) : A_.tmps[1]?.getD undef = .pointer (some ⟨w.heap.size, 0, none⟩))
      refine Rn.val fun K_ hK_ => ?_
      go_simp
      exact hK_.out _ (Ext.refl _)
    refine RnL.cons (fun g2 A_ W_ hs_ => ?_) ?_
    · have q20_ := hs_.val 2 rfl rfl rfl
      have cB0_1 := ((HB0_2.out.drew.ext hs_.1)).cell 1 rfl
      refine Rn.val fun K_ hK_ => ?_
      go_simp
      exact hK_.out _ (Ext.refl _)
    refine RnL.cons (fun g2 A_ W_ hs_ => ?_) ?_
    · have q19_ := hs_.val 1 rfl rfl rfl
      refine Rn.val fun K_ hK_ => ?_
      go_simp
      exact hK_.out _ (Ext.refl _)
    refine RnL.cons (fun g2 A_ W_ hs_ => ?_) ?_
    · have q21_ := hs_.val 3 rfl rfl rfl
      refine Rn.val fun K_ hK_ => ?_
      go_simp
      exact hK_.out _ (Ext.refl _)
    exact RnL.nil
  simp only [fs, Kd.value, puts, Act.put, List.setIfInBounds_toArray, List.set_cons_zero, List.set_cons_succ]
  have HX3 : Hid (Ext w w3) := Lib.hid (HX2.out.drew.trans hx_)
  have HB1_3 := Lib.hid (HB1_2.out.drew.ext hx_)
  clear hx_ hm_ hne_
  go_wp2_with fail
  refine wp_loop_rounds 4 ?_
  rw [rounds_succ]
  go_wp2_with fail
  refine ((HSX.out ▸ rsign_c n.x _)).mono ?_; rintro e _ ⟨rfl, rfl⟩
  go_wp2_with fail
  refine (rneg_c n.y _ HN.out.y (by omega)).mono ?_; rintro e w4 ⟨rfl, e4⟩
  have HX4 : Hid (Ext w w4) := Lib.hid (HX3.out.trans e4)
  have HB1_4 := Lib.hid (Blk.ext HB1_3.out e4)
  clear e4
  go_wp2_with fail
  rw [rounds_succ]
  go_wp2_with fail
  refine ((HSNY.out ▸ rsign_c (-n.y) _)).mono ?_; rintro e _ ⟨rfl, rfl⟩
  go_wp2_with fail
  refine (rneg_c n.x _ HN.out.x (by omega)).mono ?_; rintro e w5 ⟨rfl, e5⟩
  have HX5 : Hid (Ext w w5) := Lib.hid (HX4.out.trans e5)
  have HB1_5 := Lib.hid (Blk.ext HB1_4.out e5)
  clear e5
  go_wp2_with fail
  rw [rounds_succ]
  go_wp2_with fail
  refine ((HSNX.out ▸ rsign_c (-n.x) _)).mono ?_; rintro e _ ⟨rfl, rfl⟩
  go_wp2_with fail
  refine ((HSNY.out ▸ rsign_c (-n.y) _)).mono ?_; rintro e _ ⟨rfl, rfl⟩
  go_wp2_with fail
  refine (rneg_neg n.y _ HN.out.y (by decide)).mono ?_; rintro e w6 ⟨rfl, e6⟩
  have HX6 : Hid (Ext w w6) := Lib.hid (HX5.out.trans e6)
  have HB1_6 := Lib.hid (Blk.ext HB1_5.out e6)
  clear e6
  go_wp2_with fail
  rw [rounds_succ]
  go_wp2_with fail
  refine ((HSY.out ▸ rsign_c n.y _)).mono ?_; rintro e _ ⟨rfl, rfl⟩
  go_wp2_with fail
  refine ((HSNX.out ▸ rsign_c (-n.x) _)).mono ?_; rintro e _ ⟨rfl, rfl⟩
  go_wp2_with fail
  refine (rcompare_c n.y (-n.x) _ (HG.out.ext HX6.out) HN.out.y HN.out.x.neg (by omega) (by omega)).mono ?_; rintro e w7 ⟨rfl, e7⟩
  have HX7 : Hid (Ext w w7) := Lib.hid (HX6.out.trans e7)
  have HB1_7 := Lib.hid (Blk.ext HB1_6.out e7)
  clear e7
  go_wp2_with fail
  refine (over_c n.y (-n.x) _ (HG.out.ext HX7.out) HN.out.y HN.out.x.neg (by omega) (by omega) (by omega) (ne_of_sgn HSNX.out)).mono ?_; rintro e w8 ⟨rfl, e8⟩
  have HX8 : Hid (Ext w w8) := Lib.hid (HX7.out.trans e8)
  have HB1_8 := Lib.hid (Blk.ext HB1_7.out e8)
  clear e8
  go_wp2_with fail
  refine (anum_ok (n.y / -n.x) _ (HG.out.ext HX8.out) ((HN.out.y.div HN.out.x.neg (by decide)).mono (by decide))).mono ?_; rintro e w9 ⟨rfl, e9⟩
  have HX9 : Hid (Ext w w9) := Lib.hid (HX8.out.trans e9)
  have HB1_9 := Lib.hid (Blk.ext HB1_8.out e9)
  clear e9
  have c1_0 := HB1_9.out.cell 0 rfl
  have f1_0 := HB1_9.out.free 0
  have c1_1 := HB1_9.out.cell 1 rfl
  have f1_1 := HB1_9.out.free 1
  go_wp2_with fail
  refine wp_name (fun W => Ext w W ∧ Blk W (w.heap.size + 1) #[.int .i64 6, .string (qs (n.y / -n.x))] 28) ⟨((HX9.out.setCell (by have := HGEB1.out; first | omega | (simp only []; omega) | (simp; omega)) _).setCell (by have := HGEB1.out; first | omega | (simp only []; omega) | (simp; omega)) _), ((HB1_9.out.set 0 (.int .i64 6)).set 1 (.string (qs (n.y / -n.x))))⟩ ?_
  rintro w10 ⟨e10, bB1_10⟩
  have HX10 := Lib.hid e10; have HB1_10 := Lib.hid bB1_10
  clear e10 bB1_10 c1_0 f1_0 c1_1 f1_1
  have gB1_0 := HB1_10.out.cell 0 rfl
  have gB1_1 := HB1_10.out.cell 1 rfl
  refine bodyPost_ret (v := .tuple #[.agg #[.int .i64 6, .string (qs (n.y / -n.x))], .int .i64 0]) (by simp [results, Tryz.results13, go_sem, gB1_0, gB1_1]) rfl ⟨rfl, HX10.out⟩

set_option maxRecDepth 100000 in
set_option maxHeartbeats 4000000 in
theorem aof_mp_ge (n : P2) (w : World) (g : Gd w) (hn : PB 26 n) (hz : ¬ (n.x = 0 ∧ n.y = 0)) (hsx : n.x.num.sign = -1) (hsy : n.y.num.sign = 1) (hc : ¬ qcmp n.y (-n.x) < 0) : Calls Tryz.prog 13 #[.agg #[.string (qs n.x), .string (qs n.y)]] w (Ret w (.tuple #[.agg #[.int .i64 7, .string (qs (-n.x / n.y))], .int .i64 0])) := by
  have HN := Lib.hid hn
  have HZ := Lib.hid hz
  have HSX := Lib.hid hsx
  have HSY := Lib.hid hsy
  have HG := Lib.hid g
  clear hn hz hsx hsy g
  have HSNX : Hid ((-n.x).num.sign = 1) := Lib.hid (sgn_neg HSX.out (by decide)); have HSNY : Hid ((-n.y).num.sign = -1) := Lib.hid (sgn_neg HSY.out (by decide))
  have hc_d : decide (0 ≤ qcmp n.y (-n.x)) = true := decide_eq_true (by omega)
  clear hc
  go_enter Tryz.func13, Tryz.ntmps13
  go_wp2_with fail
  refine (ahead_ok n _ (HG.out.ext (((Ext.refl w).alloc _).alloc _)) (HN.out.mono (by decide)) HZ.out).mono ?_; rintro e w1 ⟨rfl, e1⟩
  have HX1 : Hid (Ext w w1) := Lib.hid ((((Ext.refl w).alloc _).alloc _).trans e1)
  have HB0_1 : Hid (Blk w1 (w.heap.size) #[.string (qs n.x), .string (qs n.y)] 24) := Lib.hid (Blk.ext ((Blk.new' (w := _) (cs := #[.string (qs n.x), .string (qs n.y)]) (t := 24) (by first | rfl | (simp only [World.size_alloc]; done) | (simp only [World.size_alloc]; omega) | simp)).alloc _) e1)
  have HB1_1 : Hid (Blk w1 (w.heap.size + 1) #[.int .i64 0, .string ⟨#[]⟩] 28) := Lib.hid (Blk.ext (Blk.new' (w := _) (cs := #[.int .i64 0, .string ⟨#[]⟩]) (t := 28) (by first | rfl | (simp only [World.size_alloc]; done) | (simp only [World.size_alloc]; omega) | simp)) e1)
  have HGEB0 : Hid (w.heap.size ≤ w.heap.size) := Lib.hid (by first | omega | (simp only []; omega) | (simp; omega))
  have HGEB1 : Hid (w.heap.size ≤ w.heap.size + 1) := Lib.hid (by first | omega | (simp only []; omega) | (simp; omega))
  clear e1
  go_wp2_with fail
  refine wp_name (fun W => Ext w W ∧ Blk W (w.heap.size) #[.string (qs n.x), .string (qs n.y)] 24 ∧ Blk W (w.heap.size + 1) #[.int .i64 0, .string ⟨#[]⟩] 28) ⟨HX1.out, HB0_1.out, HB1_1.out⟩ ?_
  rintro w2 ⟨e2, bB0_2, bB1_2⟩
  have HX2 := Lib.hid e2; have HB0_2 := Lib.hid bB0_2; have HB1_2 := Lib.hid bB1_2
  clear e2 bB0_2 bB1_2
  refine region_lin [.val (.pointer (some ⟨w.heap.size, 0, none⟩)), .val (.string (qs n.x)), .val (.pointer (some ⟨w.heap.size, 1, none⟩)), .val (.string (qs n.y)), .val (.string (qs n.x)), .val (.string (qs n.y))] (by kernel_rfl) (by kernel_rfl) (by kernel_rfl) ?_ (fun g2 w3 hx_ hm_ hne_ => ?_)
  · skip
    refine RnL.cons (fun g2 A_ W_ hs_ => ?_) ?_
    · have q1_ := (hs_.old 1 (by kernel_rfl) : A_.tmps[1]?.getD undef = .pointer (some ⟨w.heap.size, 0, none⟩))
      refine Rn.val fun K_ hK_ => ?_
      go_simp
      exact hK_.out _ (Ext.refl _)
    refine RnL.cons (fun g2 A_ W_ hs_ => ?_) ?_
    · have q18_ := hs_.val 0 rfl rfl rfl
      have cB0_0 := ((HB0_2.out.drew.ext hs_.1)).cell 0 rfl
      refine Rn.val fun K_ hK_ => ?_
      go_simp
      exact hK_.out _ (Ext.refl _)
    refine RnL.cons (fun g2 A_ W_ hs_ => ?_) ?_
    · have q1_ := (hs_.old 1 (by kernel_rfl) : A_.tmps[1]?.getD undef = .pointer (some ⟨w.heap.size, 0, none⟩))
      refine Rn.val fun K_ hK_ => ?_
      go_simp
      exact hK_.out _ (Ext.refl _)
    refine RnL.cons (fun g2 A_ W_ hs_ => ?_) ?_
    · have q20_ := hs_.val 2 rfl rfl rfl
      have cB0_1 := ((HB0_2.out.drew.ext hs_.1)).cell 1 rfl
      refine Rn.val fun K_ hK_ => ?_
      go_simp
      exact hK_.out _ (Ext.refl _)
    refine RnL.cons (fun g2 A_ W_ hs_ => ?_) ?_
    · have q19_ := hs_.val 1 rfl rfl rfl
      refine Rn.val fun K_ hK_ => ?_
      go_simp
      exact hK_.out _ (Ext.refl _)
    refine RnL.cons (fun g2 A_ W_ hs_ => ?_) ?_
    · have q21_ := hs_.val 3 rfl rfl rfl
      refine Rn.val fun K_ hK_ => ?_
      go_simp
      exact hK_.out _ (Ext.refl _)
    exact RnL.nil
  simp only [fs, Kd.value, puts, Act.put, List.setIfInBounds_toArray, List.set_cons_zero, List.set_cons_succ]
  have HX3 : Hid (Ext w w3) := Lib.hid (HX2.out.drew.trans hx_)
  have HB1_3 := Lib.hid (HB1_2.out.drew.ext hx_)
  clear hx_ hm_ hne_
  go_wp2_with fail
  refine wp_loop_rounds 4 ?_
  rw [rounds_succ]
  go_wp2_with fail
  refine ((HSX.out ▸ rsign_c n.x _)).mono ?_; rintro e _ ⟨rfl, rfl⟩
  go_wp2_with fail
  refine (rneg_c n.y _ HN.out.y (by omega)).mono ?_; rintro e w4 ⟨rfl, e4⟩
  have HX4 : Hid (Ext w w4) := Lib.hid (HX3.out.trans e4)
  have HB1_4 := Lib.hid (Blk.ext HB1_3.out e4)
  clear e4
  go_wp2_with fail
  rw [rounds_succ]
  go_wp2_with fail
  refine ((HSNY.out ▸ rsign_c (-n.y) _)).mono ?_; rintro e _ ⟨rfl, rfl⟩
  go_wp2_with fail
  refine (rneg_c n.x _ HN.out.x (by omega)).mono ?_; rintro e w5 ⟨rfl, e5⟩
  have HX5 : Hid (Ext w w5) := Lib.hid (HX4.out.trans e5)
  have HB1_5 := Lib.hid (Blk.ext HB1_4.out e5)
  clear e5
  go_wp2_with fail
  rw [rounds_succ]
  go_wp2_with fail
  refine ((HSNX.out ▸ rsign_c (-n.x) _)).mono ?_; rintro e _ ⟨rfl, rfl⟩
  go_wp2_with fail
  refine ((HSNY.out ▸ rsign_c (-n.y) _)).mono ?_; rintro e _ ⟨rfl, rfl⟩
  go_wp2_with fail
  refine (rneg_neg n.y _ HN.out.y (by decide)).mono ?_; rintro e w6 ⟨rfl, e6⟩
  have HX6 : Hid (Ext w w6) := Lib.hid (HX5.out.trans e6)
  have HB1_6 := Lib.hid (Blk.ext HB1_5.out e6)
  clear e6
  go_wp2_with fail
  rw [rounds_succ]
  go_wp2_with fail
  refine ((HSY.out ▸ rsign_c n.y _)).mono ?_; rintro e _ ⟨rfl, rfl⟩
  go_wp2_with fail
  refine ((HSNX.out ▸ rsign_c (-n.x) _)).mono ?_; rintro e _ ⟨rfl, rfl⟩
  go_wp2_with fail
  refine (rcompare_c n.y (-n.x) _ (HG.out.ext HX6.out) HN.out.y HN.out.x.neg (by omega) (by omega)).mono ?_; rintro e w7 ⟨rfl, e7⟩
  have HX7 : Hid (Ext w w7) := Lib.hid (HX6.out.trans e7)
  have HB1_7 := Lib.hid (Blk.ext HB1_6.out e7)
  clear e7
  go_wp2_with fail
  refine (over_c (-n.x) n.y _ (HG.out.ext HX7.out) HN.out.x.neg HN.out.y (by omega) (by omega) (by omega) (ne_of_sgn HSY.out)).mono ?_; rintro e w8 ⟨rfl, e8⟩
  have HX8 : Hid (Ext w w8) := Lib.hid (HX7.out.trans e8)
  have HB1_8 := Lib.hid (Blk.ext HB1_7.out e8)
  clear e8
  go_wp2_with fail
  refine (anum_ok (-n.x / n.y) _ (HG.out.ext HX8.out) ((HN.out.x.neg.div HN.out.y (by decide)).mono (by decide))).mono ?_; rintro e w9 ⟨rfl, e9⟩
  have HX9 : Hid (Ext w w9) := Lib.hid (HX8.out.trans e9)
  have HB1_9 := Lib.hid (Blk.ext HB1_8.out e9)
  clear e9
  have c1_0 := HB1_9.out.cell 0 rfl
  have f1_0 := HB1_9.out.free 0
  have c1_1 := HB1_9.out.cell 1 rfl
  have f1_1 := HB1_9.out.free 1
  go_wp2_with fail
  refine wp_name (fun W => Ext w W ∧ Blk W (w.heap.size + 1) #[.int .i64 7, .string (qs (-n.x / n.y))] 28) ⟨((HX9.out.setCell (by have := HGEB1.out; first | omega | (simp only []; omega) | (simp; omega)) _).setCell (by have := HGEB1.out; first | omega | (simp only []; omega) | (simp; omega)) _), ((HB1_9.out.set 0 (.int .i64 7)).set 1 (.string (qs (-n.x / n.y))))⟩ ?_
  rintro w10 ⟨e10, bB1_10⟩
  have HX10 := Lib.hid e10; have HB1_10 := Lib.hid bB1_10
  clear e10 bB1_10 c1_0 f1_0 c1_1 f1_1
  have gB1_0 := HB1_10.out.cell 0 rfl
  have gB1_1 := HB1_10.out.cell 1 rfl
  refine bodyPost_ret (v := .tuple #[.agg #[.int .i64 7, .string (qs (-n.x / n.y))], .int .i64 0]) (by simp [results, Tryz.results13, go_sem, gB1_0, gB1_1]) rfl ⟨rfl, HX10.out⟩

set_option maxRecDepth 100000 in
set_option maxHeartbeats 4000000 in
theorem aof_zm_lt (n : P2) (w : World) (g : Gd w) (hn : PB 26 n) (hz : ¬ (n.x = 0 ∧ n.y = 0)) (hsx : n.x.num.sign = 0) (hsy : n.y.num.sign = -1) (hc : qcmp (-n.x) (-n.y) < 0) : Calls Tryz.prog 13 #[.agg #[.string (qs n.x), .string (qs n.y)]] w (Ret w (.tuple #[.agg #[.int .i64 4, .string (qs (-n.x / -n.y))], .int .i64 0])) := by
  have HN := Lib.hid hn
  have HZ := Lib.hid hz
  have HSX := Lib.hid hsx
  have HSY := Lib.hid hsy
  have HG := Lib.hid g
  clear hn hz hsx hsy g
  have HSNX : Hid ((-n.x).num.sign = 0) := Lib.hid (sgn_neg HSX.out (by decide)); have HSNY : Hid ((-n.y).num.sign = 1) := Lib.hid (sgn_neg HSY.out (by decide))
  have hc_d : decide (0 ≤ qcmp (-n.x) (-n.y)) = false := decide_eq_false (by omega)
  clear hc
  go_enter Tryz.func13, Tryz.ntmps13
  go_wp2_with fail
  refine (ahead_ok n _ (HG.out.ext (((Ext.refl w).alloc _).alloc _)) (HN.out.mono (by decide)) HZ.out).mono ?_; rintro e w1 ⟨rfl, e1⟩
  have HX1 : Hid (Ext w w1) := Lib.hid ((((Ext.refl w).alloc _).alloc _).trans e1)
  have HB0_1 : Hid (Blk w1 (w.heap.size) #[.string (qs n.x), .string (qs n.y)] 24) := Lib.hid (Blk.ext ((Blk.new' (w := _) (cs := #[.string (qs n.x), .string (qs n.y)]) (t := 24) (by first | rfl | (simp only [World.size_alloc]; done) | (simp only [World.size_alloc]; omega) | simp)).alloc _) e1)
  have HB1_1 : Hid (Blk w1 (w.heap.size + 1) #[.int .i64 0, .string ⟨#[]⟩] 28) := Lib.hid (Blk.ext (Blk.new' (w := _) (cs := #[.int .i64 0, .string ⟨#[]⟩]) (t := 28) (by first | rfl | (simp only [World.size_alloc]; done) | (simp only [World.size_alloc]; omega) | simp)) e1)
  have HGEB0 : Hid (w.heap.size ≤ w.heap.size) := Lib.hid (by first | omega | (simp only []; omega) | (simp; omega))
  have HGEB1 : Hid (w.heap.size ≤ w.heap.size + 1) := Lib.hid (by first | omega | (simp only []; omega) | (simp; omega))
  clear e1
  go_wp2_with fail
  refine wp_name (fun W => Ext w W ∧ Blk W (w.heap.size) #[.string (qs n.x), .string (qs n.y)] 24 ∧ Blk W (w.heap.size + 1) #[.int .i64 0, .string ⟨#[]⟩] 28) ⟨HX1.out, HB0_1.out, HB1_1.out⟩ ?_
  rintro w2 ⟨e2, bB0_2, bB1_2⟩
  have HX2 := Lib.hid e2; have HB0_2 := Lib.hid bB0_2; have HB1_2 := Lib.hid bB1_2
  clear e2 bB0_2 bB1_2
  refine region_lin [.val (.pointer (some ⟨w.heap.size, 0, none⟩)), .val (.string (qs n.x)), .val (.pointer (some ⟨w.heap.size, 1, none⟩)), .val (.string (qs n.y)), .val (.string (qs n.x)), .val (.string (qs n.y))] (by kernel_rfl) (by kernel_rfl) (by kernel_rfl) ?_ (fun g2 w3 hx_ hm_ hne_ => ?_)
  · skip
    refine RnL.cons (fun g2 A_ W_ hs_ => ?_) ?_
    · have q1_ := (hs_.old 1 (by kernel_rfl) : A_.tmps[1]?.getD undef = .pointer (some ⟨w.heap.size, 0, none⟩))
      refine Rn.val fun K_ hK_ => ?_
      go_simp
      exact hK_.out _ (Ext.refl _)
    refine RnL.cons (fun g2 A_ W_ hs_ => ?_) ?_
    · have q18_ := hs_.val 0 rfl rfl rfl
      have cB0_0 := ((HB0_2.out.drew.ext hs_.1)).cell 0 rfl
      refine Rn.val fun K_ hK_ => ?_
      go_simp
      exact hK_.out _ (Ext.refl _)
    refine RnL.cons (fun g2 A_ W_ hs_ => ?_) ?_
    · have q1_ := (hs_.old 1 (by kernel_rfl) : A_.tmps[1]?.getD undef = .pointer (some ⟨w.heap.size, 0, none⟩))
      refine Rn.val fun K_ hK_ => ?_
      go_simp
      exact hK_.out _ (Ext.refl _)
    refine RnL.cons (fun g2 A_ W_ hs_ => ?_) ?_
    · have q20_ := hs_.val 2 rfl rfl rfl
      have cB0_1 := ((HB0_2.out.drew.ext hs_.1)).cell 1 rfl
      refine Rn.val fun K_ hK_ => ?_
      go_simp
      exact hK_.out _ (Ext.refl _)
    refine RnL.cons (fun g2 A_ W_ hs_ => ?_) ?_
    · have q19_ := hs_.val 1 rfl rfl rfl
      refine Rn.val fun K_ hK_ => ?_
      go_simp
      exact hK_.out _ (Ext.refl _)
    refine RnL.cons (fun g2 A_ W_ hs_ => ?_) ?_
    · have q21_ := hs_.val 3 rfl rfl rfl
      refine Rn.val fun K_ hK_ => ?_
      go_simp
      exact hK_.out _ (Ext.refl _)
    exact RnL.nil
  simp only [fs, Kd.value, puts, Act.put, List.setIfInBounds_toArray, List.set_cons_zero, List.set_cons_succ]
  have HX3 : Hid (Ext w w3) := Lib.hid (HX2.out.drew.trans hx_)
  have HB1_3 := Lib.hid (HB1_2.out.drew.ext hx_)
  clear hx_ hm_ hne_
  go_wp2_with fail
  refine wp_loop_rounds 3 ?_
  rw [rounds_succ]
  go_wp2_with fail
  refine ((HSX.out ▸ rsign_c n.x _)).mono ?_; rintro e _ ⟨rfl, rfl⟩
  go_wp2_with fail
  refine ((HSY.out ▸ rsign_c n.y _)).mono ?_; rintro e _ ⟨rfl, rfl⟩
  go_wp2_with fail
  refine (rneg_c n.y _ HN.out.y (by omega)).mono ?_; rintro e w4 ⟨rfl, e4⟩
  have HX4 : Hid (Ext w w4) := Lib.hid (HX3.out.trans e4)
  have HB1_4 := Lib.hid (Blk.ext HB1_3.out e4)
  clear e4
  go_wp2_with fail
  rw [rounds_succ]
  go_wp2_with fail
  refine ((HSNY.out ▸ rsign_c (-n.y) _)).mono ?_; rintro e _ ⟨rfl, rfl⟩
  go_wp2_with fail
  refine ((HSX.out ▸ rsign_c n.x _)).mono ?_; rintro e _ ⟨rfl, rfl⟩
  go_wp2_with fail
  refine (rneg_c n.x _ HN.out.x (by omega)).mono ?_; rintro e w5 ⟨rfl, e5⟩
  have HX5 : Hid (Ext w w5) := Lib.hid (HX4.out.trans e5)
  have HB1_5 := Lib.hid (Blk.ext HB1_4.out e5)
  clear e5
  go_wp2_with fail
  rw [rounds_succ]
  go_wp2_with fail
  refine ((HSNX.out ▸ rsign_c (-n.x) _)).mono ?_; rintro e _ ⟨rfl, rfl⟩
  go_wp2_with fail
  refine ((HSNY.out ▸ rsign_c (-n.y) _)).mono ?_; rintro e _ ⟨rfl, rfl⟩
  go_wp2_with fail
  refine (rcompare_c (-n.x) (-n.y) _ (HG.out.ext HX5.out) HN.out.x.neg HN.out.y.neg (by omega) (by omega)).mono ?_; rintro e w6 ⟨rfl, e6⟩
  have HX6 : Hid (Ext w w6) := Lib.hid (HX5.out.trans e6)
  have HB1_6 := Lib.hid (Blk.ext HB1_5.out e6)
  clear e6
  go_wp2_with fail
  refine (over_c (-n.x) (-n.y) _ (HG.out.ext HX6.out) HN.out.x.neg HN.out.y.neg (by omega) (by omega) (by omega) (ne_of_sgn HSNY.out)).mono ?_; rintro e w7 ⟨rfl, e7⟩
  have HX7 : Hid (Ext w w7) := Lib.hid (HX6.out.trans e7)
  have HB1_7 := Lib.hid (Blk.ext HB1_6.out e7)
  clear e7
  go_wp2_with fail
  refine (anum_ok (-n.x / -n.y) _ (HG.out.ext HX7.out) ((HN.out.x.neg.div HN.out.y.neg (by decide)).mono (by decide))).mono ?_; rintro e w8 ⟨rfl, e8⟩
  have HX8 : Hid (Ext w w8) := Lib.hid (HX7.out.trans e8)
  have HB1_8 := Lib.hid (Blk.ext HB1_7.out e8)
  clear e8
  have c1_0 := HB1_8.out.cell 0 rfl
  have f1_0 := HB1_8.out.free 0
  have c1_1 := HB1_8.out.cell 1 rfl
  have f1_1 := HB1_8.out.free 1
  go_wp2_with fail
  refine wp_name (fun W => Ext w W ∧ Blk W (w.heap.size + 1) #[.int .i64 4, .string (qs (-n.x / -n.y))] 28) ⟨((HX8.out.setCell (by have := HGEB1.out; first | omega | (simp only []; omega) | (simp; omega)) _).setCell (by have := HGEB1.out; first | omega | (simp only []; omega) | (simp; omega)) _), ((HB1_8.out.set 0 (.int .i64 4)).set 1 (.string (qs (-n.x / -n.y))))⟩ ?_
  rintro w9 ⟨e9, bB1_9⟩
  have HX9 := Lib.hid e9; have HB1_9 := Lib.hid bB1_9
  clear e9 bB1_9 c1_0 f1_0 c1_1 f1_1
  have gB1_0 := HB1_9.out.cell 0 rfl
  have gB1_1 := HB1_9.out.cell 1 rfl
  refine bodyPost_ret (v := .tuple #[.agg #[.int .i64 4, .string (qs (-n.x / -n.y))], .int .i64 0]) (by simp [results, Tryz.results13, go_sem, gB1_0, gB1_1]) rfl ⟨rfl, HX9.out⟩

set_option maxRecDepth 100000 in
set_option maxHeartbeats 4000000 in
theorem aof_zp_lt (n : P2) (w : World) (g : Gd w) (hn : PB 26 n) (hz : ¬ (n.x = 0 ∧ n.y = 0)) (hsx : n.x.num.sign = 0) (hsy : n.y.num.sign = 1) (hc : qcmp n.x n.y < 0) : Calls Tryz.prog 13 #[.agg #[.string (qs n.x), .string (qs n.y)]] w (Ret w (.tuple #[.agg #[.int .i64 0, .string (qs (n.x / n.y))], .int .i64 0])) := by
  have HN := Lib.hid hn
  have HZ := Lib.hid hz
  have HSX := Lib.hid hsx
  have HSY := Lib.hid hsy
  have HG := Lib.hid g
  clear hn hz hsx hsy g
  have HSNX : Hid ((-n.x).num.sign = 0) := Lib.hid (sgn_neg HSX.out (by decide)); have HSNY : Hid ((-n.y).num.sign = -1) := Lib.hid (sgn_neg HSY.out (by decide))
  have hc_d : decide (0 ≤ qcmp n.x n.y) = false := decide_eq_false (by omega)
  clear hc
  go_enter Tryz.func13, Tryz.ntmps13
  go_wp2_with fail
  refine (ahead_ok n _ (HG.out.ext (((Ext.refl w).alloc _).alloc _)) (HN.out.mono (by decide)) HZ.out).mono ?_; rintro e w1 ⟨rfl, e1⟩
  have HX1 : Hid (Ext w w1) := Lib.hid ((((Ext.refl w).alloc _).alloc _).trans e1)
  have HB0_1 : Hid (Blk w1 (w.heap.size) #[.string (qs n.x), .string (qs n.y)] 24) := Lib.hid (Blk.ext ((Blk.new' (w := _) (cs := #[.string (qs n.x), .string (qs n.y)]) (t := 24) (by first | rfl | (simp only [World.size_alloc]; done) | (simp only [World.size_alloc]; omega) | simp)).alloc _) e1)
  have HB1_1 : Hid (Blk w1 (w.heap.size + 1) #[.int .i64 0, .string ⟨#[]⟩] 28) := Lib.hid (Blk.ext (Blk.new' (w := _) (cs := #[.int .i64 0, .string ⟨#[]⟩]) (t := 28) (by first | rfl | (simp only [World.size_alloc]; done) | (simp only [World.size_alloc]; omega) | simp)) e1)
  have HGEB0 : Hid (w.heap.size ≤ w.heap.size) := Lib.hid (by first | omega | (simp only []; omega) | (simp; omega))
  have HGEB1 : Hid (w.heap.size ≤ w.heap.size + 1) := Lib.hid (by first | omega | (simp only []; omega) | (simp; omega))
  clear e1
  go_wp2_with fail
  refine wp_name (fun W => Ext w W ∧ Blk W (w.heap.size) #[.string (qs n.x), .string (qs n.y)] 24 ∧ Blk W (w.heap.size + 1) #[.int .i64 0, .string ⟨#[]⟩] 28) ⟨HX1.out, HB0_1.out, HB1_1.out⟩ ?_
  rintro w2 ⟨e2, bB0_2, bB1_2⟩
  have HX2 := Lib.hid e2; have HB0_2 := Lib.hid bB0_2; have HB1_2 := Lib.hid bB1_2
  clear e2 bB0_2 bB1_2
  refine region_lin [.val (.pointer (some ⟨w.heap.size, 0, none⟩)), .val (.string (qs n.x)), .val (.pointer (some ⟨w.heap.size, 1, none⟩)), .val (.string (qs n.y)), .val (.string (qs n.x)), .val (.string (qs n.y))] (by kernel_rfl) (by kernel_rfl) (by kernel_rfl) ?_ (fun g2 w3 hx_ hm_ hne_ => ?_)
  · skip
    refine RnL.cons (fun g2 A_ W_ hs_ => ?_) ?_
    · have q1_ := (hs_.old 1 (by kernel_rfl) : A_.tmps[1]?.getD undef = .pointer (some ⟨w.heap.size, 0, none⟩))
      refine Rn.val fun K_ hK_ => ?_
      go_simp
      exact hK_.out _ (Ext.refl _)
    refine RnL.cons (fun g2 A_ W_ hs_ => ?_) ?_
    · have q18_ := hs_.val 0 rfl rfl rfl
      have cB0_0 := ((HB0_2.out.drew.ext hs_.1)).cell 0 rfl
      refine Rn.val fun K_ hK_ => ?_
      go_simp
      exact hK_.out _ (Ext.refl _)
    refine RnL.cons (fun g2 A_ W_ hs_ => ?_) ?_
    · have q1_ := (hs_.old 1 (by kernel_rfl) : A_.tmps[1]?.getD undef = .pointer (some ⟨w.heap.size, 0, none⟩))
      refine Rn.val fun K_ hK_ => ?_
      go_simp
      exact hK_.out _ (Ext.refl _)
    refine RnL.cons (fun g2 A_ W_ hs_ => ?_) ?_
    · have q20_ := hs_.val 2 rfl rfl rfl
      have cB0_1 := ((HB0_2.out.drew.ext hs_.1)).cell 1 rfl
      refine Rn.val fun K_ hK_ => ?_
      go_simp
      exact hK_.out _ (Ext.refl _)
    refine RnL.cons (fun g2 A_ W_ hs_ => ?_) ?_
    · have q19_ := hs_.val 1 rfl rfl rfl
      refine Rn.val fun K_ hK_ => ?_
      go_simp
      exact hK_.out _ (Ext.refl _)
    refine RnL.cons (fun g2 A_ W_ hs_ => ?_) ?_
    · have q21_ := hs_.val 3 rfl rfl rfl
      refine Rn.val fun K_ hK_ => ?_
      go_simp
      exact hK_.out _ (Ext.refl _)
    exact RnL.nil
  simp only [fs, Kd.value, puts, Act.put, List.setIfInBounds_toArray, List.set_cons_zero, List.set_cons_succ]
  have HX3 : Hid (Ext w w3) := Lib.hid (HX2.out.drew.trans hx_)
  have HB1_3 := Lib.hid (HB1_2.out.drew.ext hx_)
  clear hx_ hm_ hne_
  go_wp2_with fail
  refine wp_loop_rounds 1 ?_
  rw [rounds_succ]
  go_wp2_with fail
  refine ((HSX.out ▸ rsign_c n.x _)).mono ?_; rintro e _ ⟨rfl, rfl⟩
  go_wp2_with fail
  refine ((HSY.out ▸ rsign_c n.y _)).mono ?_; rintro e _ ⟨rfl, rfl⟩
  go_wp2_with fail
  refine (rcompare_c n.x n.y _ (HG.out.ext HX3.out) HN.out.x HN.out.y (by omega) (by omega)).mono ?_; rintro e w4 ⟨rfl, e4⟩
  have HX4 : Hid (Ext w w4) := Lib.hid (HX3.out.trans e4)
  have HB1_4 := Lib.hid (Blk.ext HB1_3.out e4)
  clear e4
  go_wp2_with fail
  refine (over_c n.x n.y _ (HG.out.ext HX4.out) HN.out.x HN.out.y (by omega) (by omega) (by omega) (ne_of_sgn HSY.out)).mono ?_; rintro e w5 ⟨rfl, e5⟩
  have HX5 : Hid (Ext w w5) := Lib.hid (HX4.out.trans e5)
  have HB1_5 := Lib.hid (Blk.ext HB1_4.out e5)
  clear e5
  go_wp2_with fail
  refine (anum_ok (n.x / n.y) _ (HG.out.ext HX5.out) ((HN.out.x.div HN.out.y (by decide)).mono (by decide))).mono ?_; rintro e w6 ⟨rfl, e6⟩
  have HX6 : Hid (Ext w w6) := Lib.hid (HX5.out.trans e6)
  have HB1_6 := Lib.hid (Blk.ext HB1_5.out e6)
  clear e6
  have c1_0 := HB1_6.out.cell 0 rfl
  have f1_0 := HB1_6.out.free 0
  have c1_1 := HB1_6.out.cell 1 rfl
  have f1_1 := HB1_6.out.free 1
  go_wp2_with fail
  refine wp_name (fun W => Ext w W ∧ Blk W (w.heap.size + 1) #[.int .i64 0, .string (qs (n.x / n.y))] 28) ⟨((HX6.out.setCell (by have := HGEB1.out; first | omega | (simp only []; omega) | (simp; omega)) _).setCell (by have := HGEB1.out; first | omega | (simp only []; omega) | (simp; omega)) _), ((HB1_6.out.set 0 (.int .i64 0)).set 1 (.string (qs (n.x / n.y))))⟩ ?_
  rintro w7 ⟨e7, bB1_7⟩
  have HX7 := Lib.hid e7; have HB1_7 := Lib.hid bB1_7
  clear e7 bB1_7 c1_0 f1_0 c1_1 f1_1
  have gB1_0 := HB1_7.out.cell 0 rfl
  have gB1_1 := HB1_7.out.cell 1 rfl
  refine bodyPost_ret (v := .tuple #[.agg #[.int .i64 0, .string (qs (n.x / n.y))], .int .i64 0]) (by simp [results, Tryz.results13, go_sem, gB1_0, gB1_1]) rfl ⟨rfl, HX7.out⟩

set_option maxRecDepth 100000 in
set_option maxHeartbeats 4000000 in
theorem aof_pm_lt (n : P2) (w : World) (g : Gd w) (hn : PB 26 n) (hz : ¬ (n.x = 0 ∧ n.y = 0)) (hsx : n.x.num.sign = 1) (hsy : n.y.num.sign = -1) (hc : qcmp (-n.y) n.x < 0) : Calls Tryz.prog 13 #[.agg #[.string (qs n.x), .string (qs n.y)]] w (Ret w (.tuple #[.agg #[.int .i64 2, .string (qs (-n.y / n.x))], .int .i64 0])) := by
  have HN := Lib.hid hn
  have HZ := Lib.hid hz
  have HSX := Lib.hid hsx
  have HSY := Lib.hid hsy
  have HG := Lib.hid g
  clear hn hz hsx hsy g
  have HSNX : Hid ((-n.x).num.sign = -1) := Lib.hid (sgn_neg HSX.out (by decide)); have HSNY : Hid ((-n.y).num.sign = 1) := Lib.hid (sgn_neg HSY.out (by decide))
  have hc_d : decide (0 ≤ qcmp (-n.y) n.x) = false := decide_eq_false (by omega)
  clear hc
  go_enter Tryz.func13, Tryz.ntmps13
  go_wp2_with fail
  refine (ahead_ok n _ (HG.out.ext (((Ext.refl w).alloc _).alloc _)) (HN.out.mono (by decide)) HZ.out).mono ?_; rintro e w1 ⟨rfl, e1⟩
  have HX1 : Hid (Ext w w1) := Lib.hid ((((Ext.refl w).alloc _).alloc _).trans e1)
  have HB0_1 : Hid (Blk w1 (w.heap.size) #[.string (qs n.x), .string (qs n.y)] 24) := Lib.hid (Blk.ext ((Blk.new' (w := _) (cs := #[.string (qs n.x), .string (qs n.y)]) (t := 24) (by first | rfl | (simp only [World.size_alloc]; done) | (simp only [World.size_alloc]; omega) | simp)).alloc _) e1)
  have HB1_1 : Hid (Blk w1 (w.heap.size + 1) #[.int .i64 0, .string ⟨#[]⟩] 28) := Lib.hid (Blk.ext (Blk.new' (w := _) (cs := #[.int .i64 0, .string ⟨#[]⟩]) (t := 28) (by first | rfl | (simp only [World.size_alloc]; done) | (simp only [World.size_alloc]; omega) | simp)) e1)
  have HGEB0 : Hid (w.heap.size ≤ w.heap.size) := Lib.hid (by first | omega | (simp only []; omega) | (simp; omega))
  have HGEB1 : Hid (w.heap.size ≤ w.heap.size + 1) := Lib.hid (by first | omega | (simp only []; omega) | (simp; omega))
  clear e1
  go_wp2_with fail
  refine wp_name (fun W => Ext w W ∧ Blk W (w.heap.size) #[.string (qs n.x), .string (qs n.y)] 24 ∧ Blk W (w.heap.size + 1) #[.int .i64 0, .string ⟨#[]⟩] 28) ⟨HX1.out, HB0_1.out, HB1_1.out⟩ ?_
  rintro w2 ⟨e2, bB0_2, bB1_2⟩
  have HX2 := Lib.hid e2; have HB0_2 := Lib.hid bB0_2; have HB1_2 := Lib.hid bB1_2
  clear e2 bB0_2 bB1_2
  refine region_lin [.val (.pointer (some ⟨w.heap.size, 0, none⟩)), .val (.string (qs n.x)), .val (.pointer (some ⟨w.heap.size, 1, none⟩)), .val (.string (qs n.y)), .val (.string (qs n.x)), .val (.string (qs n.y))] (by kernel_rfl) (by kernel_rfl) (by kernel_rfl) ?_ (fun g2 w3 hx_ hm_ hne_ => ?_)
  · skip
    refine RnL.cons (fun g2 A_ W_ hs_ => ?_) ?_
    · have q1_ := (hs_.old 1 (by kernel_rfl) : A_.tmps[1]?.getD undef = .pointer (some ⟨w.heap.size, 0, none⟩))
      refine Rn.val fun K_ hK_ => ?_
      go_simp
      exact hK_.out _ (Ext.refl _)
    refine RnL.cons (fun g2 A_ W_ hs_ => ?_) ?_
    · have q18_ := hs_.val 0 rfl rfl rfl
      have cB0_0 := ((HB0_2.out.drew.ext hs_.1)).cell 0 rfl
      refine Rn.val fun K_ hK_ => ?_
      go_simp
      exact hK_.out _ (Ext.refl _)
    refine RnL.cons (fun g2 A_ W_ hs_ => ?_) ?_
    · have q1_ := (hs_.old 1 (by kernel_rfl) : A_.tmps[1]?.getD undef = .pointer (some ⟨w.heap.size, 0, none⟩))
      refine Rn.val fun K_ hK_ => ?_
      go_simp
      exact hK_.out _ (Ext.refl _)
    refine RnL.cons (fun g2 A_ W_ hs_ => ?_) ?_
    · have q20_ := hs_.val 2 rfl rfl rfl
      have cB0_1 := ((HB0_2.out.drew.ext hs_.1)).cell 1 rfl
      refine Rn.val fun K_ hK_ => ?_
      go_simp
      exact hK_.out _ (Ext.refl _)
    refine RnL.cons (fun g2 A_ W_ hs_ => ?_) ?_
    · have q19_ := hs_.val 1 rfl rfl rfl
      refine Rn.val fun K_ hK_ => ?_
      go_simp
      exact hK_.out _ (Ext.refl _)
    refine RnL.cons (fun g2 A_ W_ hs_ => ?_) ?_
    · have q21_ := hs_.val 3 rfl rfl rfl
      refine Rn.val fun K_ hK_ => ?_
      go_simp
      exact hK_.out _ (Ext.refl _)
    exact RnL.nil
  simp only [fs, Kd.value, puts, Act.put, List.setIfInBounds_toArray, List.set_cons_zero, List.set_cons_succ]
  have HX3 : Hid (Ext w w3) := Lib.hid (HX2.out.drew.trans hx_)
  have HB1_3 := Lib.hid (HB1_2.out.drew.ext hx_)
  clear hx_ hm_ hne_
  go_wp2_with fail
  refine wp_loop_rounds 2 ?_
  rw [rounds_succ]
  go_wp2_with fail
  refine ((HSX.out ▸ rsign_c n.x _)).mono ?_; rintro e _ ⟨rfl, rfl⟩
  go_wp2_with fail
  refine ((HSY.out ▸ rsign_c n.y _)).mono ?_; rintro e _ ⟨rfl, rfl⟩
  go_wp2_with fail
  refine (rneg_c n.y _ HN.out.y (by omega)).mono ?_; rintro e w4 ⟨rfl, e4⟩
  have HX4 : Hid (Ext w w4) := Lib.hid (HX3.out.trans e4)
  have HB1_4 := Lib.hid (Blk.ext HB1_3.out e4)
  clear e4
  go_wp2_with fail
  rw [rounds_succ]
  go_wp2_with fail
  refine ((HSNY.out ▸ rsign_c (-n.y) _)).mono ?_; rintro e _ ⟨rfl, rfl⟩
  go_wp2_with fail
  refine ((HSX.out ▸ rsign_c n.x _)).mono ?_; rintro e _ ⟨rfl, rfl⟩
  go_wp2_with fail
  refine (rcompare_c (-n.y) n.x _ (HG.out.ext HX4.out) HN.out.y.neg HN.out.x (by omega) (by omega)).mono ?_; rintro e w5 ⟨rfl, e5⟩
  have HX5 : Hid (Ext w w5) := Lib.hid (HX4.out.trans e5)
  have HB1_5 := Lib.hid (Blk.ext HB1_4.out e5)
  clear e5
  go_wp2_with fail
  refine (over_c (-n.y) n.x _ (HG.out.ext HX5.out) HN.out.y.neg HN.out.x (by omega) (by omega) (by omega) (ne_of_sgn HSX.out)).mono ?_; rintro e w6 ⟨rfl, e6⟩
  have HX6 : Hid (Ext w w6) := Lib.hid (HX5.out.trans e6)
  have HB1_6 := Lib.hid (Blk.ext HB1_5.out e6)
  clear e6
  go_wp2_with fail
  refine (anum_ok (-n.y / n.x) _ (HG.out.ext HX6.out) ((HN.out.y.neg.div HN.out.x (by decide)).mono (by decide))).mono ?_; rintro e w7 ⟨rfl, e7⟩
  have HX7 : Hid (Ext w w7) := Lib.hid (HX6.out.trans e7)
  have HB1_7 := Lib.hid (Blk.ext HB1_6.out e7)
  clear e7
  have c1_0 := HB1_7.out.cell 0 rfl
  have f1_0 := HB1_7.out.free 0
  have c1_1 := HB1_7.out.cell 1 rfl
  have f1_1 := HB1_7.out.free 1
  go_wp2_with fail
  refine wp_name (fun W => Ext w W ∧ Blk W (w.heap.size + 1) #[.int .i64 2, .string (qs (-n.y / n.x))] 28) ⟨((HX7.out.setCell (by have := HGEB1.out; first | omega | (simp only []; omega) | (simp; omega)) _).setCell (by have := HGEB1.out; first | omega | (simp only []; omega) | (simp; omega)) _), ((HB1_7.out.set 0 (.int .i64 2)).set 1 (.string (qs (-n.y / n.x))))⟩ ?_
  rintro w8 ⟨e8, bB1_8⟩
  have HX8 := Lib.hid e8; have HB1_8 := Lib.hid bB1_8
  clear e8 bB1_8 c1_0 f1_0 c1_1 f1_1
  have gB1_0 := HB1_8.out.cell 0 rfl
  have gB1_1 := HB1_8.out.cell 1 rfl
  refine bodyPost_ret (v := .tuple #[.agg #[.int .i64 2, .string (qs (-n.y / n.x))], .int .i64 0]) (by simp [results, Tryz.results13, go_sem, gB1_0, gB1_1]) rfl ⟨rfl, HX8.out⟩

set_option maxRecDepth 100000 in
set_option maxHeartbeats 4000000 in
theorem aof_pm_ge (n : P2) (w : World) (g : Gd w) (hn : PB 26 n) (hz : ¬ (n.x = 0 ∧ n.y = 0)) (hsx : n.x.num.sign = 1) (hsy : n.y.num.sign = -1) (hc : ¬ qcmp (-n.y) n.x < 0) : Calls Tryz.prog 13 #[.agg #[.string (qs n.x), .string (qs n.y)]] w (Ret w (.tuple #[.agg #[.int .i64 3, .string (qs (n.x / -n.y))], .int .i64 0])) := by
  have HN := Lib.hid hn
  have HZ := Lib.hid hz
  have HSX := Lib.hid hsx
  have HSY := Lib.hid hsy
  have HG := Lib.hid g
  clear hn hz hsx hsy g
  have HSNX : Hid ((-n.x).num.sign = -1) := Lib.hid (sgn_neg HSX.out (by decide)); have HSNY : Hid ((-n.y).num.sign = 1) := Lib.hid (sgn_neg HSY.out (by decide))
  have hc_d : decide (0 ≤ qcmp (-n.y) n.x) = true := decide_eq_true (by omega)
  clear hc
  go_enter Tryz.func13, Tryz.ntmps13
  go_wp2_with fail
  refine (ahead_ok n _ (HG.out.ext (((Ext.refl w).alloc _).alloc _)) (HN.out.mono (by decide)) HZ.out).mono ?_; rintro e w1 ⟨rfl, e1⟩
  have HX1 : Hid (Ext w w1) := Lib.hid ((((Ext.refl w).alloc _).alloc _).trans e1)
  have HB0_1 : Hid (Blk w1 (w.heap.size) #[.string (qs n.x), .string (qs n.y)] 24) := Lib.hid (Blk.ext ((Blk.new' (w := _) (cs := #[.string (qs n.x), .string (qs n.y)]) (t := 24) (by first | rfl | (simp only [World.size_alloc]; done) | (simp only [World.size_alloc]; omega) | simp)).alloc _) e1)
  have HB1_1 : Hid (Blk w1 (w.heap.size + 1) #[.int .i64 0, .string ⟨#[]⟩] 28) := Lib.hid (Blk.ext (Blk.new' (w := _) (cs := #[.int .i64 0, .string ⟨#[]⟩]) (t := 28) (by first | rfl | (simp only [World.size_alloc]; done) | (simp only [World.size_alloc]; omega) | simp)) e1)
  have HGEB0 : Hid (w.heap.size ≤ w.heap.size) := Lib.hid (by first | omega | (simp only []; omega) | (simp; omega))
  have HGEB1 : Hid (w.heap.size ≤ w.heap.size + 1) := Lib.hid (by first | omega | (simp only []; omega) | (simp; omega))
  clear e1
  go_wp2_with fail
  refine wp_name (fun W => Ext w W ∧ Blk W (w.heap.size) #[.string (qs n.x), .string (qs n.y)] 24 ∧ Blk W (w.heap.size + 1) #[.int .i64 0, .string ⟨#[]⟩] 28) ⟨HX1.out, HB0_1.out, HB1_1.out⟩ ?_
  rintro w2 ⟨e2, bB0_2, bB1_2⟩
  have HX2 := Lib.hid e2; have HB0_2 := Lib.hid bB0_2; have HB1_2 := Lib.hid bB1_2
  clear e2 bB0_2 bB1_2
  refine region_lin [.val (.pointer (some ⟨w.heap.size, 0, none⟩)), .val (.string (qs n.x)), .val (.pointer (some ⟨w.heap.size, 1, none⟩)), .val (.string (qs n.y)), .val (.string (qs n.x)), .val (.string (qs n.y))] (by kernel_rfl) (by kernel_rfl) (by kernel_rfl) ?_ (fun g2 w3 hx_ hm_ hne_ => ?_)
  · skip
    refine RnL.cons (fun g2 A_ W_ hs_ => ?_) ?_
    · have q1_ := (hs_.old 1 (by kernel_rfl) : A_.tmps[1]?.getD undef = .pointer (some ⟨w.heap.size, 0, none⟩))
      refine Rn.val fun K_ hK_ => ?_
      go_simp
      exact hK_.out _ (Ext.refl _)
    refine RnL.cons (fun g2 A_ W_ hs_ => ?_) ?_
    · have q18_ := hs_.val 0 rfl rfl rfl
      have cB0_0 := ((HB0_2.out.drew.ext hs_.1)).cell 0 rfl
      refine Rn.val fun K_ hK_ => ?_
      go_simp
      exact hK_.out _ (Ext.refl _)
    refine RnL.cons (fun g2 A_ W_ hs_ => ?_) ?_
    · have q1_ := (hs_.old 1 (by kernel_rfl) : A_.tmps[1]?.getD undef = .pointer (some ⟨w.heap.size, 0, none⟩))
      refine Rn.val fun K_ hK_ => ?_
      go_simp
      exact hK_.out _ (Ext.refl _)
    refine RnL.cons (fun g2 A_ W_ hs_ => ?_) ?_
    · have q20_ := hs_.val 2 rfl rfl rfl
      have cB0_1 := ((HB0_2.out.drew.ext hs_.1)).cell 1 rfl
      refine Rn.val fun K_ hK_ => ?_
      go_simp
      exact hK_.out _ (Ext.refl _)
    refine RnL.cons (fun g2 A_ W_ hs_ => ?_) ?_
    · have q19_ := hs_.val 1 rfl rfl rfl
      refine Rn.val fun K_ hK_ => ?_
      go_simp
      exact hK_.out _ (Ext.refl _)
    refine RnL.cons (fun g2 A_ W_ hs_ => ?_) ?_
    · have q21_ := hs_.val 3 rfl rfl rfl
      refine Rn.val fun K_ hK_ => ?_
      go_simp
      exact hK_.out _ (Ext.refl _)
    exact RnL.nil
  simp only [fs, Kd.value, puts, Act.put, List.setIfInBounds_toArray, List.set_cons_zero, List.set_cons_succ]
  have HX3 : Hid (Ext w w3) := Lib.hid (HX2.out.drew.trans hx_)
  have HB1_3 := Lib.hid (HB1_2.out.drew.ext hx_)
  clear hx_ hm_ hne_
  go_wp2_with fail
  refine wp_loop_rounds 2 ?_
  rw [rounds_succ]
  go_wp2_with fail
  refine ((HSX.out ▸ rsign_c n.x _)).mono ?_; rintro e _ ⟨rfl, rfl⟩
  go_wp2_with fail
  refine ((HSY.out ▸ rsign_c n.y _)).mono ?_; rintro e _ ⟨rfl, rfl⟩
  go_wp2_with fail
  refine (rneg_c n.y _ HN.out.y (by omega)).mono ?_; rintro e w4 ⟨rfl, e4⟩
  have HX4 : Hid (Ext w w4) := Lib.hid (HX3.out.trans e4)
  have HB1_4 := Lib.hid (Blk.ext HB1_3.out e4)
  clear e4
  go_wp2_with fail
  rw [rounds_succ]
  go_wp2_with fail
  refine ((HSNY.out ▸ rsign_c (-n.y) _)).mono ?_; rintro e _ ⟨rfl, rfl⟩
  go_wp2_with fail
  refine ((HSX.out ▸ rsign_c n.x _)).mono ?_; rintro e _ ⟨rfl, rfl⟩
  go_wp2_with fail
  refine (rcompare_c (-n.y) n.x _ (HG.out.ext HX4.out) HN.out.y.neg HN.out.x (by omega) (by omega)).mono ?_; rintro e w5 ⟨rfl, e5⟩
  have HX5 : Hid (Ext w w5) := Lib.hid (HX4.out.trans e5)
  have HB1_5 := Lib.hid (Blk.ext HB1_4.out e5)
  clear e5
  go_wp2_with fail
  refine (over_c n.x (-n.y) _ (HG.out.ext HX5.out) HN.out.x HN.out.y.neg (by omega) (by omega) (by omega) (ne_of_sgn HSNY.out)).mono ?_; rintro e w6 ⟨rfl, e6⟩
  have HX6 : Hid (Ext w w6) := Lib.hid (HX5.out.trans e6)
  have HB1_6 := Lib.hid (Blk.ext HB1_5.out e6)
  clear e6
  go_wp2_with fail
  refine (anum_ok (n.x / -n.y) _ (HG.out.ext HX6.out) ((HN.out.x.div HN.out.y.neg (by decide)).mono (by decide))).mono ?_; rintro e w7 ⟨rfl, e7⟩
  have HX7 : Hid (Ext w w7) := Lib.hid (HX6.out.trans e7)
  have HB1_7 := Lib.hid (Blk.ext HB1_6.out e7)
  clear e7
  have c1_0 := HB1_7.out.cell 0 rfl
  have f1_0 := HB1_7.out.free 0
  have c1_1 := HB1_7.out.cell 1 rfl
  have f1_1 := HB1_7.out.free 1
  go_wp2_with fail
  refine wp_name (fun W => Ext w W ∧ Blk W (w.heap.size + 1) #[.int .i64 3, .string (qs (n.x / -n.y))] 28) ⟨((HX7.out.setCell (by have := HGEB1.out; first | omega | (simp only []; omega) | (simp; omega)) _).setCell (by have := HGEB1.out; first | omega | (simp only []; omega) | (simp; omega)) _), ((HB1_7.out.set 0 (.int .i64 3)).set 1 (.string (qs (n.x / -n.y))))⟩ ?_
  rintro w8 ⟨e8, bB1_8⟩
  have HX8 := Lib.hid e8; have HB1_8 := Lib.hid bB1_8
  clear e8 bB1_8 c1_0 f1_0 c1_1 f1_1
  have gB1_0 := HB1_8.out.cell 0 rfl
  have gB1_1 := HB1_8.out.cell 1 rfl
  refine bodyPost_ret (v := .tuple #[.agg #[.int .i64 3, .string (qs (n.x / -n.y))], .int .i64 0]) (by simp [results, Tryz.results13, go_sem, gB1_0, gB1_1]) rfl ⟨rfl, HX8.out⟩

set_option maxRecDepth 100000 in
set_option maxHeartbeats 4000000 in
theorem aof_pz_lt (n : P2) (w : World) (g : Gd w) (hn : PB 26 n) (hz : ¬ (n.x = 0 ∧ n.y = 0)) (hsx : n.x.num.sign = 1) (hsy : n.y.num.sign = 0) (hc : qcmp (-n.y) n.x < 0) : Calls Tryz.prog 13 #[.agg #[.string (qs n.x), .string (qs n.y)]] w (Ret w (.tuple #[.agg #[.int .i64 2, .string (qs (-n.y / n.x))], .int .i64 0])) := by
  have HN := Lib.hid hn
  have HZ := Lib.hid hz
  have HSX := Lib.hid hsx
  have HSY := Lib.hid hsy
  have HG := Lib.hid g
  clear hn hz hsx hsy g
  have HSNX : Hid ((-n.x).num.sign = -1) := Lib.hid (sgn_neg HSX.out (by decide)); have HSNY : Hid ((-n.y).num.sign = 0) := Lib.hid (sgn_neg HSY.out (by decide))
  have hc_d : decide (0 ≤ qcmp (-n.y) n.x) = false := decide_eq_false (by omega)
  clear hc
  go_enter Tryz.func13, Tryz.ntmps13
  go_wp2_with fail
  refine (ahead_ok n _ (HG.out.ext (((Ext.refl w).alloc _).alloc _)) (HN.out.mono (by decide)) HZ.out).mono ?_; rintro e w1 ⟨rfl, e1⟩
  have HX1 : Hid (Ext w w1) := Lib.hid ((((Ext.refl w).alloc _).alloc _).trans e1)
  have HB0_1 : Hid (Blk w1 (w.heap.size) #[.string (qs n.x), .string (qs n.y)] 24) := Lib.hid (Blk.ext ((Blk.new' (w := _) (cs := #[.string (qs n.x), .string (qs n.y)]) (t := 24) (by first | rfl | (simp only [World.size_alloc]; done) | (simp only [World.size_alloc]; omega) | simp)).alloc _) e1)
  have HB1_1 : Hid (Blk w1 (w.heap.size + 1) #[.int .i64 0, .string ⟨#[]⟩] 28) := Lib.hid (Blk.ext (Blk.new' (w := _) (cs := #[.int .i64 0, .string ⟨#[]⟩]) (t := 28) (by first | rfl | (simp only [World.size_alloc]; done) | (simp only [World.size_alloc]; omega) | simp)) e1)
  have HGEB0 : Hid (w.heap.size ≤ w.heap.size) := Lib.hid (by first | omega | (simp only []; omega) | (simp; omega))
  have HGEB1 : Hid (w.heap.size ≤ w.heap.size + 1) := Lib.hid (by first | omega | (simp only []; omega) | (simp; omega))
  clear e1
  go_wp2_with fail
  refine wp_name (fun W => Ext w W ∧ Blk W (w.heap.size) #[.string (qs n.x), .string (qs n.y)] 24 ∧ Blk W (w.heap.size + 1) #[.int .i64 0, .string ⟨#[]⟩] 28) ⟨HX1.out, HB0_1.out, HB1_1.out⟩ ?_
  rintro w2 ⟨e2, bB0_2, bB1_2⟩
  have HX2 := Lib.hid e2; have HB0_2 := Lib.hid bB0_2; have HB1_2 := Lib.hid bB1_2
  clear e2 bB0_2 bB1_2
  refine region_lin [.val (.pointer (some ⟨w.heap.size, 0, none⟩)), .val (.string (qs n.x)), .val (.pointer (some ⟨w.heap.size, 1, none⟩)), .val (.string (qs n.y)), .val (.string (qs n.x)), .val (.string (qs n.y))] (by kernel_rfl) (by kernel_rfl) (by kernel_rfl) ?_ (fun g2 w3 hx_ hm_ hne_ => ?_)
  · skip
    refine RnL.cons (fun g2 A_ W_ hs_ => ?_) ?_
    · have q1_ := (hs_.old 1 (by kernel_rfl) : A_.tmps[1]?.getD undef = .pointer (some ⟨w.heap.size, 0, none⟩))
      refine Rn.val fun K_ hK_ => ?_
      go_simp
      exact hK_.out _ (Ext.refl _)
    refine RnL.cons (fun g2 A_ W_ hs_ => ?_) ?_
    · have q18_ := hs_.val 0 rfl rfl rfl
      have cB0_0 := ((HB0_2.out.drew.ext hs_.1)).cell 0 rfl
      refine Rn.val fun K_ hK_ => ?_
      go_simp
      exact hK_.out _ (Ext.refl _)
    refine RnL.cons (fun g2 A_ W_ hs_ => ?_) ?_
    · have q1_ := (hs_.old 1 (by kernel_rfl) : A_.tmps[1]?.getD undef = .pointer (some ⟨w.heap.size, 0, none⟩))
      refine Rn.val fun K_ hK_ => ?_
      go_simp
      exact hK_.out _ (Ext.refl _)
    refine RnL.cons (fun g2 A_ W_ hs_ => ?_) ?_
    · have q20_ := hs_.val 2 rfl rfl rfl
      have cB0_1 := ((HB0_2.out.drew.ext hs_.1)).cell 1 rfl
      refine Rn.val fun K_ hK_ => ?_
      go_simp
      exact hK_.out _ (Ext.refl _)
    refine RnL.cons (fun g2 A_ W_ hs_ => ?_) ?_
    · have q19_ := hs_.val 1 rfl rfl rfl
      refine Rn.val fun K_ hK_ => ?_
      go_simp
      exact hK_.out _ (Ext.refl _)
    refine RnL.cons (fun g2 A_ W_ hs_ => ?_) ?_
    · have q21_ := hs_.val 3 rfl rfl rfl
      refine Rn.val fun K_ hK_ => ?_
      go_simp
      exact hK_.out _ (Ext.refl _)
    exact RnL.nil
  simp only [fs, Kd.value, puts, Act.put, List.setIfInBounds_toArray, List.set_cons_zero, List.set_cons_succ]
  have HX3 : Hid (Ext w w3) := Lib.hid (HX2.out.drew.trans hx_)
  have HB1_3 := Lib.hid (HB1_2.out.drew.ext hx_)
  clear hx_ hm_ hne_
  go_wp2_with fail
  refine wp_loop_rounds 2 ?_
  rw [rounds_succ]
  go_wp2_with fail
  refine ((HSX.out ▸ rsign_c n.x _)).mono ?_; rintro e _ ⟨rfl, rfl⟩
  go_wp2_with fail
  refine ((HSY.out ▸ rsign_c n.y _)).mono ?_; rintro e _ ⟨rfl, rfl⟩
  go_wp2_with fail
  refine (rneg_c n.y _ HN.out.y (by omega)).mono ?_; rintro e w4 ⟨rfl, e4⟩
  have HX4 : Hid (Ext w w4) := Lib.hid (HX3.out.trans e4)
  have HB1_4 := Lib.hid (Blk.ext HB1_3.out e4)
  clear e4
  go_wp2_with fail
  rw [rounds_succ]
  go_wp2_with fail
  refine ((HSNY.out ▸ rsign_c (-n.y) _)).mono ?_; rintro e _ ⟨rfl, rfl⟩
  go_wp2_with fail
  refine ((HSX.out ▸ rsign_c n.x _)).mono ?_; rintro e _ ⟨rfl, rfl⟩
  go_wp2_with fail
  refine (rcompare_c (-n.y) n.x _ (HG.out.ext HX4.out) HN.out.y.neg HN.out.x (by omega) (by omega)).mono ?_; rintro e w5 ⟨rfl, e5⟩
  have HX5 : Hid (Ext w w5) := Lib.hid (HX4.out.trans e5)
  have HB1_5 := Lib.hid (Blk.ext HB1_4.out e5)
  clear e5
  go_wp2_with fail
  refine (over_c (-n.y) n.x _ (HG.out.ext HX5.out) HN.out.y.neg HN.out.x (by omega) (by omega) (by omega) (ne_of_sgn HSX.out)).mono ?_; rintro e w6 ⟨rfl, e6⟩
  have HX6 : Hid (Ext w w6) := Lib.hid (HX5.out.trans e6)
  have HB1_6 := Lib.hid (Blk.ext HB1_5.out e6)
  clear e6
  go_wp2_with fail
  refine (anum_ok (-n.y / n.x) _ (HG.out.ext HX6.out) ((HN.out.y.neg.div HN.out.x (by decide)).mono (by decide))).mono ?_; rintro e w7 ⟨rfl, e7⟩
  have HX7 : Hid (Ext w w7) := Lib.hid (HX6.out.trans e7)
  have HB1_7 := Lib.hid (Blk.ext HB1_6.out e7)
  clear e7
  have c1_0 := HB1_7.out.cell 0 rfl
  have f1_0 := HB1_7.out.free 0
  have c1_1 := HB1_7.out.cell 1 rfl
  have f1_1 := HB1_7.out.free 1
  go_wp2_with fail
  refine wp_name (fun W => Ext w W ∧ Blk W (w.heap.size + 1) #[.int .i64 2, .string (qs (-n.y / n.x))] 28) ⟨((HX7.out.setCell (by have := HGEB1.out; first | omega | (simp only []; omega) | (simp; omega)) _).setCell (by have := HGEB1.out; first | omega | (simp only []; omega) | (simp; omega)) _), ((HB1_7.out.set 0 (.int .i64 2)).set 1 (.string (qs (-n.y / n.x))))⟩ ?_
  rintro w8 ⟨e8, bB1_8⟩
  have HX8 := Lib.hid e8; have HB1_8 := Lib.hid bB1_8
  clear e8 bB1_8 c1_0 f1_0 c1_1 f1_1
  have gB1_0 := HB1_8.out.cell 0 rfl
  have gB1_1 := HB1_8.out.cell 1 rfl
  refine bodyPost_ret (v := .tuple #[.agg #[.int .i64 2, .string (qs (-n.y / n.x))], .int .i64 0]) (by simp [results, Tryz.results13, go_sem, gB1_0, gB1_1]) rfl ⟨rfl, HX8.out⟩

set_option maxRecDepth 100000 in
set_option maxHeartbeats 4000000 in
theorem aof_pp_lt (n : P2) (w : World) (g : Gd w) (hn : PB 26 n) (hz : ¬ (n.x = 0 ∧ n.y = 0)) (hsx : n.x.num.sign = 1) (hsy : n.y.num.sign = 1) (hc : qcmp n.x n.y < 0) : Calls Tryz.prog 13 #[.agg #[.string (qs n.x), .string (qs n.y)]] w (Ret w (.tuple #[.agg #[.int .i64 0, .string (qs (n.x / n.y))], .int .i64 0])) := by
  have HN := Lib.hid hn
  have HZ := Lib.hid hz
  have HSX := Lib.hid hsx
  have HSY := Lib.hid hsy
  have HG := Lib.hid g
  clear hn hz hsx hsy g
  have HSNX : Hid ((-n.x).num.sign = -1) := Lib.hid (sgn_neg HSX.out (by decide)); have HSNY : Hid ((-n.y).num.sign = -1) := Lib.hid (sgn_neg HSY.out (by decide))
  have hc_d : decide (0 ≤ qcmp n.x n.y) = false := decide_eq_false (by omega)
  clear hc
  go_enter Tryz.func13, Tryz.ntmps13
  go_wp2_with fail
  refine (ahead_ok n _ (HG.out.ext (((Ext.refl w).alloc _).alloc _)) (HN.out.mono (by decide)) HZ.out).mono ?_; rintro e w1 ⟨rfl, e1⟩
  have HX1 : Hid (Ext w w1) := Lib.hid ((((Ext.refl w).alloc _).alloc _).trans e1)
  have HB0_1 : Hid (Blk w1 (w.heap.size) #[.string (qs n.x), .string (qs n.y)] 24) := Lib.hid (Blk.ext ((Blk.new' (w := _) (cs := #[.string (qs n.x), .string (qs n.y)]) (t := 24) (by first | rfl | (simp only [World.size_alloc]; done) | (simp only [World.size_alloc]; omega) | simp)).alloc _) e1)
  have HB1_1 : Hid (Blk w1 (w.heap.size + 1) #[.int .i64 0, .string ⟨#[]⟩] 28) := Lib.hid (Blk.ext (Blk.new' (w := _) (cs := #[.int .i64 0, .string ⟨#[]⟩]) (t := 28) (by first | rfl | (simp only [World.size_alloc]; done) | (simp only [World.size_alloc]; omega) | simp)) e1)
  have HGEB0 : Hid (w.heap.size ≤ w.heap.size) := Lib.hid (by first | omega | (simp only []; omega) | (simp; omega))
  have HGEB1 : Hid (w.heap.size ≤ w.heap.size + 1) := Lib.hid (by first | omega | (simp only []; omega) | (simp; omega))
  clear e1
  go_wp2_with fail
  refine wp_name (fun W => Ext w W ∧ Blk W (w.heap.size) #[.string (qs n.x), .string (qs n.y)] 24 ∧ Blk W (w.heap.size + 1) #[.int .i64 0, .string ⟨#[]⟩] 28) ⟨HX1.out, HB0_1.out, HB1_1.out⟩ ?_
  rintro w2 ⟨e2, bB0_2, bB1_2⟩
  have HX2 := Lib.hid e2; have HB0_2 := Lib.hid bB0_2; have HB1_2 := Lib.hid bB1_2
  clear e2 bB0_2 bB1_2
  refine region_lin [.val (.pointer (some ⟨w.heap.size, 0, none⟩)), .val (.string (qs n.x)), .val (.pointer (some ⟨w.heap.size, 1, none⟩)), .val (.string (qs n.y)), .val (.string (qs n.x)), .val (.string (qs n.y))] (by kernel_rfl) (by kernel_rfl) (by kernel_rfl) ?_ (fun g2 w3 hx_ hm_ hne_ => ?_)
  · skip
    refine RnL.cons (fun g2 A_ W_ hs_ => ?_) ?_
    · have q1_ := (hs_.old 1 (by kernel_rfl) : A_.tmps[1]?.getD undef = .pointer (some ⟨w.heap.size, 0, none⟩))
      refine Rn.val fun K_ hK_ => ?_
      go_simp
      exact hK_.out _ (Ext.refl _)
    refine RnL.cons (fun g2 A_ W_ hs_ => ?_) ?_
    · have q18_ := hs_.val 0 rfl rfl rfl
      have cB0_0 := ((HB0_2.out.drew.ext hs_.1)).cell 0 rfl
      refine Rn.val fun K_ hK_ => ?_
      go_simp
      exact hK_.out _ (Ext.refl _)
    refine RnL.cons (fun g2 A_ W_ hs_ => ?_) ?_
    · have q1_ := (hs_.old 1 (by kernel_rfl) : A_.tmps[1]?.getD undef = .pointer (some ⟨w.heap.size, 0, none⟩))
      refine Rn.val fun K_ hK_ => ?_
      go_simp
      exact hK_.out _ (Ext.refl _)
    refine RnL.cons (fun g2 A_ W_ hs_ => ?_) ?_
    · have q20_ := hs_.val 2 rfl rfl rfl
      have cB0_1 := ((HB0_2.out.drew.ext hs_.1)).cell 1 rfl
      refine Rn.val fun K_ hK_ => ?_
      go_simp
      exact hK_.out _ (Ext.refl _)
    refine RnL.cons (fun g2 A_ W_ hs_ => ?_) ?_
    · have q19_ := hs_.val 1 rfl rfl rfl
      refine Rn.val fun K_ hK_ => ?_
      go_simp
      exact hK_.out _ (Ext.refl _)
    refine RnL.cons (fun g2 A_ W_ hs_ => ?_) ?_
    · have q21_ := hs_.val 3 rfl rfl rfl
      refine Rn.val fun K_ hK_ => ?_
      go_simp
      exact hK_.out _ (Ext.refl _)
    exact RnL.nil
  simp only [fs, Kd.value, puts, Act.put, List.setIfInBounds_toArray, List.set_cons_zero, List.set_cons_succ]
  have HX3 : Hid (Ext w w3) := Lib.hid (HX2.out.drew.trans hx_)
  have HB1_3 := Lib.hid (HB1_2.out.drew.ext hx_)
  clear hx_ hm_ hne_
  go_wp2_with fail
  refine wp_loop_rounds 1 ?_
  rw [rounds_succ]
  go_wp2_with fail
  refine ((HSX.out ▸ rsign_c n.x _)).mono ?_; rintro e _ ⟨rfl, rfl⟩
  go_wp2_with fail
  refine ((HSY.out ▸ rsign_c n.y _)).mono ?_; rintro e _ ⟨rfl, rfl⟩
  go_wp2_with fail
  refine (rcompare_c n.x n.y _ (HG.out.ext HX3.out) HN.out.x HN.out.y (by omega) (by omega)).mono ?_; rintro e w4 ⟨rfl, e4⟩
  have HX4 : Hid (Ext w w4) := Lib.hid (HX3.out.trans e4)
  have HB1_4 := Lib.hid (Blk.ext HB1_3.out e4)
  clear e4
  go_wp2_with fail
  refine (over_c n.x n.y _ (HG.out.ext HX4.out) HN.out.x HN.out.y (by omega) (by omega) (by omega) (ne_of_sgn HSY.out)).mono ?_; rintro e w5 ⟨rfl, e5⟩
  have HX5 : Hid (Ext w w5) := Lib.hid (HX4.out.trans e5)
  have HB1_5 := Lib.hid (Blk.ext HB1_4.out e5)
  clear e5
  go_wp2_with fail
  refine (anum_ok (n.x / n.y) _ (HG.out.ext HX5.out) ((HN.out.x.div HN.out.y (by decide)).mono (by decide))).mono ?_; rintro e w6 ⟨rfl, e6⟩
  have HX6 : Hid (Ext w w6) := Lib.hid (HX5.out.trans e6)
  have HB1_6 := Lib.hid (Blk.ext HB1_5.out e6)
  clear e6
  have c1_0 := HB1_6.out.cell 0 rfl
  have f1_0 := HB1_6.out.free 0
  have c1_1 := HB1_6.out.cell 1 rfl
  have f1_1 := HB1_6.out.free 1
  go_wp2_with fail
  refine wp_name (fun W => Ext w W ∧ Blk W (w.heap.size + 1) #[.int .i64 0, .string (qs (n.x / n.y))] 28) ⟨((HX6.out.setCell (by have := HGEB1.out; first | omega | (simp only []; omega) | (simp; omega)) _).setCell (by have := HGEB1.out; first | omega | (simp only []; omega) | (simp; omega)) _), ((HB1_6.out.set 0 (.int .i64 0)).set 1 (.string (qs (n.x / n.y))))⟩ ?_
  rintro w7 ⟨e7, bB1_7⟩
  have HX7 := Lib.hid e7; have HB1_7 := Lib.hid bB1_7
  clear e7 bB1_7 c1_0 f1_0 c1_1 f1_1
  have gB1_0 := HB1_7.out.cell 0 rfl
  have gB1_1 := HB1_7.out.cell 1 rfl
  refine bodyPost_ret (v := .tuple #[.agg #[.int .i64 0, .string (qs (n.x / n.y))], .int .i64 0]) (by simp [results, Tryz.results13, go_sem, gB1_0, gB1_1]) rfl ⟨rfl, HX7.out⟩

set_option maxRecDepth 100000 in
set_option maxHeartbeats 4000000 in
theorem aof_pp_ge (n : P2) (w : World) (g : Gd w) (hn : PB 26 n) (hz : ¬ (n.x = 0 ∧ n.y = 0)) (hsx : n.x.num.sign = 1) (hsy : n.y.num.sign = 1) (hc : ¬ qcmp n.x n.y < 0) : Calls Tryz.prog 13 #[.agg #[.string (qs n.x), .string (qs n.y)]] w (Ret w (.tuple #[.agg #[.int .i64 1, .string (qs (n.y / n.x))], .int .i64 0])) := by
  have HN := Lib.hid hn
  have HZ := Lib.hid hz
  have HSX := Lib.hid hsx
  have HSY := Lib.hid hsy
  have HG := Lib.hid g
  clear hn hz hsx hsy g
  have HSNX : Hid ((-n.x).num.sign = -1) := Lib.hid (sgn_neg HSX.out (by decide)); have HSNY : Hid ((-n.y).num.sign = -1) := Lib.hid (sgn_neg HSY.out (by decide))
  have hc_d : decide (0 ≤ qcmp n.x n.y) = true := decide_eq_true (by omega)
  clear hc
  go_enter Tryz.func13, Tryz.ntmps13
  go_wp2_with fail
  refine (ahead_ok n _ (HG.out.ext (((Ext.refl w).alloc _).alloc _)) (HN.out.mono (by decide)) HZ.out).mono ?_; rintro e w1 ⟨rfl, e1⟩
  have HX1 : Hid (Ext w w1) := Lib.hid ((((Ext.refl w).alloc _).alloc _).trans e1)
  have HB0_1 : Hid (Blk w1 (w.heap.size) #[.string (qs n.x), .string (qs n.y)] 24) := Lib.hid (Blk.ext ((Blk.new' (w := _) (cs := #[.string (qs n.x), .string (qs n.y)]) (t := 24) (by first | rfl | (simp only [World.size_alloc]; done) | (simp only [World.size_alloc]; omega) | simp)).alloc _) e1)
  have HB1_1 : Hid (Blk w1 (w.heap.size + 1) #[.int .i64 0, .string ⟨#[]⟩] 28) := Lib.hid (Blk.ext (Blk.new' (w := _) (cs := #[.int .i64 0, .string ⟨#[]⟩]) (t := 28) (by first | rfl | (simp only [World.size_alloc]; done) | (simp only [World.size_alloc]; omega) | simp)) e1)
  have HGEB0 : Hid (w.heap.size ≤ w.heap.size) := Lib.hid (by first | omega | (simp only []; omega) | (simp; omega))
  have HGEB1 : Hid (w.heap.size ≤ w.heap.size + 1) := Lib.hid (by first | omega | (simp only []; omega) | (simp; omega))
  clear e1
  go_wp2_with fail
  refine wp_name (fun W => Ext w W ∧ Blk W (w.heap.size) #[.string (qs n.x), .string (qs n.y)] 24 ∧ Blk W (w.heap.size + 1) #[.int .i64 0, .string ⟨#[]⟩] 28) ⟨HX1.out, HB0_1.out, HB1_1.out⟩ ?_
  rintro w2 ⟨e2, bB0_2, bB1_2⟩
  have HX2 := Lib.hid e2; have HB0_2 := Lib.hid bB0_2; have HB1_2 := Lib.hid bB1_2
  clear e2 bB0_2 bB1_2
  refine region_lin [.val (.pointer (some ⟨w.heap.size, 0, none⟩)), .val (.string (qs n.x)), .val (.pointer (some ⟨w.heap.size, 1, none⟩)), .val (.string (qs n.y)), .val (.string (qs n.x)), .val (.string (qs n.y))] (by kernel_rfl) (by kernel_rfl) (by kernel_rfl) ?_ (fun g2 w3 hx_ hm_ hne_ => ?_)
  · skip
    refine RnL.cons (fun g2 A_ W_ hs_ => ?_) ?_
    · have q1_ := (hs_.old 1 (by kernel_rfl) : A_.tmps[1]?.getD undef = .pointer (some ⟨w.heap.size, 0, none⟩))
      refine Rn.val fun K_ hK_ => ?_
      go_simp
      exact hK_.out _ (Ext.refl _)
    refine RnL.cons (fun g2 A_ W_ hs_ => ?_) ?_
    · have q18_ := hs_.val 0 rfl rfl rfl
      have cB0_0 := ((HB0_2.out.drew.ext hs_.1)).cell 0 rfl
      refine Rn.val fun K_ hK_ => ?_
      go_simp
      exact hK_.out _ (Ext.refl _)
    refine RnL.cons (fun g2 A_ W_ hs_ => ?_) ?_
    · have q1_ := (hs_.old 1 (by kernel_rfl) : A_.tmps[1]?.getD undef = .pointer (some ⟨w.heap.size, 0, none⟩))
      refine Rn.val fun K_ hK_ => ?_
      go_simp
      exact hK_.out _ (Ext.refl _)
    refine RnL.cons (fun g2 A_ W_ hs_ => ?_) ?_
    · have q20_ := hs_.val 2 rfl rfl rfl
      have cB0_1 := ((HB0_2.out.drew.ext hs_.1)).cell 1 rfl
      refine Rn.val fun K_ hK_ => ?_
      go_simp
      exact hK_.out _ (Ext.refl _)
    refine RnL.cons (fun g2 A_ W_ hs_ => ?_) ?_
    · have q19_ := hs_.val 1 rfl rfl rfl
      refine Rn.val fun K_ hK_ => ?_
      go_simp
      exact hK_.out _ (Ext.refl _)
    refine RnL.cons (fun g2 A_ W_ hs_ => ?_) ?_
    · have q21_ := hs_.val 3 rfl rfl rfl
      refine Rn.val fun K_ hK_ => ?_
      go_simp
      exact hK_.out _ (Ext.refl _)
    exact RnL.nil
  simp only [fs, Kd.value, puts, Act.put, List.setIfInBounds_toArray, List.set_cons_zero, List.set_cons_succ]
  have HX3 : Hid (Ext w w3) := Lib.hid (HX2.out.drew.trans hx_)
  have HB1_3 := Lib.hid (HB1_2.out.drew.ext hx_)
  clear hx_ hm_ hne_
  go_wp2_with fail
  refine wp_loop_rounds 1 ?_
  rw [rounds_succ]
  go_wp2_with fail
  refine ((HSX.out ▸ rsign_c n.x _)).mono ?_; rintro e _ ⟨rfl, rfl⟩
  go_wp2_with fail
  refine ((HSY.out ▸ rsign_c n.y _)).mono ?_; rintro e _ ⟨rfl, rfl⟩
  go_wp2_with fail
  refine (rcompare_c n.x n.y _ (HG.out.ext HX3.out) HN.out.x HN.out.y (by omega) (by omega)).mono ?_; rintro e w4 ⟨rfl, e4⟩
  have HX4 : Hid (Ext w w4) := Lib.hid (HX3.out.trans e4)
  have HB1_4 := Lib.hid (Blk.ext HB1_3.out e4)
  clear e4
  go_wp2_with fail
  refine (over_c n.y n.x _ (HG.out.ext HX4.out) HN.out.y HN.out.x (by omega) (by omega) (by omega) (ne_of_sgn HSX.out)).mono ?_; rintro e w5 ⟨rfl, e5⟩
  have HX5 : Hid (Ext w w5) := Lib.hid (HX4.out.trans e5)
  have HB1_5 := Lib.hid (Blk.ext HB1_4.out e5)
  clear e5
  go_wp2_with fail
  refine (anum_ok (n.y / n.x) _ (HG.out.ext HX5.out) ((HN.out.y.div HN.out.x (by decide)).mono (by decide))).mono ?_; rintro e w6 ⟨rfl, e6⟩
  have HX6 : Hid (Ext w w6) := Lib.hid (HX5.out.trans e6)
  have HB1_6 := Lib.hid (Blk.ext HB1_5.out e6)
  clear e6
  have c1_0 := HB1_6.out.cell 0 rfl
  have f1_0 := HB1_6.out.free 0
  have c1_1 := HB1_6.out.cell 1 rfl
  have f1_1 := HB1_6.out.free 1
  go_wp2_with fail
  refine wp_name (fun W => Ext w W ∧ Blk W (w.heap.size + 1) #[.int .i64 1, .string (qs (n.y / n.x))] 28) ⟨((HX6.out.setCell (by have := HGEB1.out; first | omega | (simp only []; omega) | (simp; omega)) _).setCell (by have := HGEB1.out; first | omega | (simp only []; omega) | (simp; omega)) _), ((HB1_6.out.set 0 (.int .i64 1)).set 1 (.string (qs (n.y / n.x))))⟩ ?_
  rintro w7 ⟨e7, bB1_7⟩
  have HX7 := Lib.hid e7; have HB1_7 := Lib.hid bB1_7
  clear e7 bB1_7 c1_0 f1_0 c1_1 f1_1
  have gB1_0 := HB1_7.out.cell 0 rfl
  have gB1_1 := HB1_7.out.cell 1 rfl
  refine bodyPost_ret (v := .tuple #[.agg #[.int .i64 1, .string (qs (n.y / n.x))], .int .i64 0]) (by simp [results, Tryz.results13, go_sem, gB1_0, gB1_1]) rfl ⟨rfl, HX7.out⟩

theorem aof_c (n : P2) (w : World) (g : Gd w) (hn : PB 26 n) (hz : ¬ (n.x = 0 ∧ n.y = 0)) : Calls Tryz.prog 13 #[pv n] w (Ret w (.tuple #[.agg #[.int .i64 (cq n.x n.y).1, .string (qs (cq n.x n.y).2)], .int .i64 0])) := by
  unfold cq
  rcases sgn3 n.x with hx | hx | hx <;> rcases sgn3 n.y with hy | hy | hy
  · rw [quad_mm hx hy]
    by_cases hc : qcmp (-n.x) (-n.y) < 0
    · have := aof_mm_lt n w g hn hz hx hy hc; rw [octo_lt hc]; exact this
    · have := aof_mm_ge n w g hn hz hx hy hc; rw [octo_ge hc]; exact this
  · rw [quad_mz hx hy]
    by_cases hc : qcmp n.y (-n.x) < 0
    · have := aof_mz_lt n w g hn hz hx hy hc; rw [octo_lt hc]; exact this
    · refine absurd (qcmp_lt9.2 ?_) hc; have e := sgn0 hy; have := sgn_pos (sgn_neg hx (show - (-1 : Int) = 1 by decide)); grind
  · rw [quad_mp hx hy]
    by_cases hc : qcmp n.y (-n.x) < 0
    · have := aof_mp_lt n w g hn hz hx hy hc; rw [octo_lt hc]; exact this
    · have := aof_mp_ge n w g hn hz hx hy hc; rw [octo_ge hc]; exact this
  · rw [quad_zm hx hy]
    by_cases hc : qcmp (-n.x) (-n.y) < 0
    · have := aof_zm_lt n w g hn hz hx hy hc; rw [octo_lt hc]; exact this
    · refine absurd (qcmp_lt9.2 ?_) hc; have e := sgn0 hx; have := sgn_pos (sgn_neg hy (show - (-1 : Int) = 1 by decide)); grind
  · exact absurd ⟨sgn0 hx, sgn0 hy⟩ hz
  · rw [quad_zp hx hy]
    by_cases hc : qcmp n.x n.y < 0
    · have := aof_zp_lt n w g hn hz hx hy hc; rw [octo_lt hc]; exact this
    · refine absurd (qcmp_lt9.2 ?_) hc; have e := sgn0 hx; have := sgn_pos hy; grind
  · rw [quad_pm hx hy]
    by_cases hc : qcmp (-n.y) n.x < 0
    · have := aof_pm_lt n w g hn hz hx hy hc; rw [octo_lt hc]; exact this
    · have := aof_pm_ge n w g hn hz hx hy hc; rw [octo_ge hc]; exact this
  · rw [quad_pz hx hy]
    by_cases hc : qcmp (-n.y) n.x < 0
    · have := aof_pz_lt n w g hn hz hx hy hc; rw [octo_lt hc]; exact this
    · refine absurd (qcmp_lt9.2 ?_) hc; have e := sgn0 hy; have := sgn_pos hx; grind
  · rw [quad_pp hx hy]
    by_cases hc : qcmp n.x n.y < 0
    · have := aof_pp_lt n w g hn hz hx hy hc; rw [octo_lt hc]; exact this
    · have := aof_pp_ge n w g hn hz hx hy hc; rw [octo_ge hc]; exact this

set_option maxRecDepth 100000 in
set_option maxHeartbeats 4000000 in
theorem lcomp_mm_lt (n : P2) (w : World) (g : Gd w) (hn : PB 24 n) (hsx : n.x.num.sign = -1) (hsy : n.y.num.sign = -1) (hc : qcmp (-n.x) (-n.y) < 0) : Calls Tryz.prog 16 #[.agg #[.string (qs n.x), .string (qs n.y)]] w (Ret w (.agg #[.int .i64 4, .string (qs (-n.x / -n.y))])) := by
  have HN := Lib.hid hn
  have HSX := Lib.hid hsx
  have HSY := Lib.hid hsy
  have HG := Lib.hid g
  clear hn hsx hsy g
  have HSNX : Hid ((-n.x).num.sign = 1) := Lib.hid (sgn_neg HSX.out (by decide)); have HSNY : Hid ((-n.y).num.sign = 1) := Lib.hid (sgn_neg HSY.out (by decide))
  have hc_d : decide (qcmp (-n.x) (-n.y) < 0) = true := decide_eq_true hc
  clear hc
  go_enter Tryz.func16, Tryz.ntmps16
  go_wp2_with fail
  refine wp_loop_rounds 3 ?_
  rw [rounds_succ]
  go_wp2_with fail
  refine ((HSX.out ▸ rsign_c n.x _)).mono ?_; rintro e _ ⟨rfl, rfl⟩
  go_wp2_with fail
  refine wp_name (fun W => Ext w W ∧ Blk W (w.heap.size) #[.string (qs n.x), .string (qs n.y)] 24 ∧ Blk W (w.heap.size + 1) #[.int .i64 0, .string ⟨#[]⟩] 28) ⟨(((Ext.refl w).alloc _).alloc _), ((Blk.new' (w := _) (cs := #[.string (qs n.x), .string (qs n.y)]) (t := 24) (by first | rfl | (simp only [World.size_alloc]; done) | (simp only [World.size_alloc]; omega) | simp)).alloc _), (Blk.new' (w := _) (cs := #[.int .i64 0, .string ⟨#[]⟩]) (t := 28) (by first | rfl | (simp only [World.size_alloc]; done) | (simp only [World.size_alloc]; omega) | simp))⟩ ?_
  rintro w1 ⟨e1, bB0_1, bB1_1⟩
  have HX1 := Lib.hid e1; have HB0_1 := Lib.hid bB0_1; have HB1_1 := Lib.hid bB1_1
  have HGEB0 : Hid (w.heap.size ≤ w.heap.size) := Lib.hid (by first | omega | (simp only []; omega) | (simp; omega))
  have HGEB1 : Hid (w.heap.size ≤ w.heap.size + 1) := Lib.hid (by first | omega | (simp only []; omega) | (simp; omega))
  clear e1 bB0_1 bB1_1
  refine region_lin_s (X := w) [⟨w.heap.size, #[.string (qs n.x), .string (qs n.y)], #[.string (qs (-n.y)), .string (qs n.x)], 24⟩] [.val (.pointer (some ⟨w.heap.size, 1, none⟩)), .val (.string (qs n.y)), .val (.string (qs (-n.y))), .val (.pointer (some ⟨w.heap.size, 0, none⟩)), .val (.string (qs n.x)), .val (.agg #[.string (qs (-n.y)), .string (qs n.x)]), .st 0] (by kernel_rfl) (by kernel_rfl) (by kernel_rfl) HX1.out.drew (List.forall_mem_cons.2 ⟨⟨HGEB0.out, HB0_1.out.drew⟩, (fun _ h => by cases h)⟩) dis1 ?_ (fun g1 w2 hx_ hk_ hb_ hm_ hne_ => ?_)
  · skip
    refine RnL.cons (fun g1 A_ W_ hs_ => ?_) ?_
    · have q1_ := (hs_.old 1 (by kernel_rfl) : A_.tmps[1]?.getD undef = .pointer (some ⟨w.heap.size, 0, none⟩))
      refine Rn.val fun K_ hK_ => ?_
      go_simp
      exact hK_.out _ (Ext.refl _)
    refine RnL.cons (fun g1 A_ W_ hs_ => ?_) ?_
    · have q41_ := hs_.val 0 rfl rfl rfl
      have cB0_1 := ((hs_.ob 0 rfl (by kernel_rfl))).cell 1 rfl
      refine Rn.val fun K_ hK_ => ?_
      go_simp
      exact hK_.out _ (Ext.refl _)
    refine RnL.cons (fun g1 A_ W_ hs_ => ?_) ?_
    · have q42_ := hs_.val 1 rfl rfl rfl
      refine Rn.val fun K_ hK_ => ?_
      go_simp
      refine (rneg_c n.y _ HN.out.y (by omega)).mono ?_; rintro e W9_ ⟨rfl, e9_⟩; exact hK_.out _ e9_
    refine RnL.cons (fun g1 A_ W_ hs_ => ?_) ?_
    · have q1_ := (hs_.old 1 (by kernel_rfl) : A_.tmps[1]?.getD undef = .pointer (some ⟨w.heap.size, 0, none⟩))
      refine Rn.val fun K_ hK_ => ?_
      go_simp
      exact hK_.out _ (Ext.refl _)
    refine RnL.cons (fun g1 A_ W_ hs_ => ?_) ?_
    · have q44_ := hs_.val 3 rfl rfl rfl
      have cB0_0 := ((hs_.ob 0 rfl (by kernel_rfl))).cell 0 rfl
      refine Rn.val fun K_ hK_ => ?_
      go_simp
      exact hK_.out _ (Ext.refl _)
    refine RnL.cons (fun g1 A_ W_ hs_ => ?_) ?_
    · have q43_ := hs_.val 2 rfl rfl rfl
      have q45_ := hs_.val 4 rfl rfl rfl
      refine Rn.val fun K_ hK_ => ?_
      go_simp
      exact hK_.out _ (Ext.refl _)
    refine RnL.cons (fun g1 A_ W_ hs_ => ?_) ?_
    · have q1_ := (hs_.old 1 (by kernel_rfl) : A_.tmps[1]?.getD undef = .pointer (some ⟨w.heap.size, 0, none⟩))
      have q46_ := hs_.val 5 rfl rfl rfl
      refine Rn.st (n := 0) rfl fun hB0 K_ hK_ => ?_
      have hB : Blk W_ (w.heap.size) #[.string (qs n.x), .string (qs n.y)] 24 := hB0; clear hB0
      have c_0 := hB.cell 0 rfl; have f_0 := hB.free 0
      have c_1 := hB.cell 1 rfl; have f_1 := hB.free 1
      have HB := Lib.hid hB; clear hB
      go_simp
      exact hK_.out _ (((Only.refl _ _).set 0 _).set 1 _) ((HB.out.set 0 _).set 1 _)
    exact RnL.nil
  simp only [fs, Kd.value, puts, Act.put, List.setIfInBounds_toArray, List.set_cons_zero, List.set_cons_succ]
  have HX2 : Hid (Ext w w2) := Lib.hid hx_
  have HB0_2 : Hid (Blk w2 (w.heap.size) #[.string (qs (-n.y)), .string (qs n.x)] 24) := Lib.hid (hb_ 0 _ rfl)
  have HB1_2 : Hid (Blk w2 (w.heap.size + 1) #[.int .i64 0, .string ⟨#[]⟩] 28) := Lib.hid (hk_ _ _ _ (fm2 (show w.heap.size ≠ w.heap.size + 1 from by first | omega | (simp only []; omega) | (simp; omega)) fm0) HB1_1.out.drew)
  clear hx_ hm_ hne_ hk_ hb_
  go_wp2_with fail
  rw [rounds_succ]
  have c0_0 := HB0_2.out.cell 0 rfl
  go_wp2_with fail
  refine ((HSNY.out ▸ rsign_c (-n.y) _)).mono ?_; rintro e _ ⟨rfl, rfl⟩
  clear c0_0
  have c0_1 := HB0_2.out.cell 1 rfl
  go_wp2_with fail
  refine ((HSX.out ▸ rsign_c n.x _)).mono ?_; rintro e _ ⟨rfl, rfl⟩
  clear c0_1
  go_wp2_with fail
  refine wp_name (fun W => Ext w W ∧ Blk W (w.heap.size) #[.string (qs (-n.y)), .string (qs n.x)] 24 ∧ Blk W (w.heap.size + 1) #[.int .i64 0, .string ⟨#[]⟩] 28) ⟨HX2.out, HB0_2.out, HB1_2.out⟩ ?_
  rintro w3 ⟨e3, bB0_3, bB1_3⟩
  have HX3 := Lib.hid e3; have HB0_3 := Lib.hid bB0_3; have HB1_3 := Lib.hid bB1_3
  clear e3 bB0_3 bB1_3
  refine region_lin_s (X := w) [⟨w.heap.size, #[.string (qs (-n.y)), .string (qs n.x)], #[.string (qs (-n.x)), .string (qs (-n.y))], 24⟩] [.val (.pointer (some ⟨w.heap.size, 1, none⟩)), .val (.string (qs n.x)), .val (.string (qs (-n.x))), .val (.pointer (some ⟨w.heap.size, 0, none⟩)), .val (.string (qs (-n.y))), .val (.agg #[.string (qs (-n.x)), .string (qs (-n.y))]), .st 0] (by kernel_rfl) (by kernel_rfl) (by kernel_rfl) HX3.out.drew (List.forall_mem_cons.2 ⟨⟨HGEB0.out, HB0_3.out.drew⟩, (fun _ h => by cases h)⟩) dis1 ?_ (fun g3 w4 hx_ hk_ hb_ hm_ hne_ => ?_)
  · skip
    refine RnL.cons (fun g3 A_ W_ hs_ => ?_) ?_
    · have q1_ := (hs_.old 1 (by kernel_rfl) : A_.tmps[1]?.getD undef = .pointer (some ⟨w.heap.size, 0, none⟩))
      refine Rn.val fun K_ hK_ => ?_
      go_simp
      exact hK_.out _ (Ext.refl _)
    refine RnL.cons (fun g3 A_ W_ hs_ => ?_) ?_
    · have q41_ := hs_.val 0 rfl rfl rfl
      have cB0_1 := ((hs_.ob 0 rfl (by kernel_rfl))).cell 1 rfl
      refine Rn.val fun K_ hK_ => ?_
      go_simp
      exact hK_.out _ (Ext.refl _)
    refine RnL.cons (fun g3 A_ W_ hs_ => ?_) ?_
    · have q42_ := hs_.val 1 rfl rfl rfl
      refine Rn.val fun K_ hK_ => ?_
      go_simp
      refine (rneg_c n.x _ HN.out.x (by omega)).mono ?_; rintro e W9_ ⟨rfl, e9_⟩; exact hK_.out _ e9_
    refine RnL.cons (fun g3 A_ W_ hs_ => ?_) ?_
    · have q1_ := (hs_.old 1 (by kernel_rfl) : A_.tmps[1]?.getD undef = .pointer (some ⟨w.heap.size, 0, none⟩))
      refine Rn.val fun K_ hK_ => ?_
      go_simp
      exact hK_.out _ (Ext.refl _)
    refine RnL.cons (fun g3 A_ W_ hs_ => ?_) ?_
    · have q44_ := hs_.val 3 rfl rfl rfl
      have cB0_0 := ((hs_.ob 0 rfl (by kernel_rfl))).cell 0 rfl
      refine Rn.val fun K_ hK_ => ?_
      go_simp
      exact hK_.out _ (Ext.refl _)
    refine RnL.cons (fun g3 A_ W_ hs_ => ?_) ?_
    · have q43_ := hs_.val 2 rfl rfl rfl
      have q45_ := hs_.val 4 rfl rfl rfl
      refine Rn.val fun K_ hK_ => ?_
      go_simp
      exact hK_.out _ (Ext.refl _)
    refine RnL.cons (fun g3 A_ W_ hs_ => ?_) ?_
    · have q1_ := (hs_.old 1 (by kernel_rfl) : A_.tmps[1]?.getD undef = .pointer (some ⟨w.heap.size, 0, none⟩))
      have q46_ := hs_.val 5 rfl rfl rfl
      refine Rn.st (n := 0) rfl fun hB0 K_ hK_ => ?_
      have hB : Blk W_ (w.heap.size) #[.string (qs (-n.y)), .string (qs n.x)] 24 := hB0; clear hB0
      have c_0 := hB.cell 0 rfl; have f_0 := hB.free 0
      have c_1 := hB.cell 1 rfl; have f_1 := hB.free 1
      have HB := Lib.hid hB; clear hB
      go_simp
      exact hK_.out _ (((Only.refl _ _).set 0 _).set 1 _) ((HB.out.set 0 _).set 1 _)
    exact RnL.nil
  simp only [fs, Kd.value, puts, Act.put, List.setIfInBounds_toArray, List.set_cons_zero, List.set_cons_succ]
  have HX4 : Hid (Ext w w4) := Lib.hid hx_
  have HB0_4 : Hid (Blk w4 (w.heap.size) #[.string (qs (-n.x)), .string (qs (-n.y))] 24) := Lib.hid (hb_ 0 _ rfl)
  have HB1_4 : Hid (Blk w4 (w.heap.size + 1) #[.int .i64 0, .string ⟨#[]⟩] 28) := Lib.hid (hk_ _ _ _ (fm2 (show w.heap.size ≠ w.heap.size + 1 from by first | omega | (simp only []; omega) | (simp; omega)) fm0) HB1_3.out.drew)
  clear hx_ hm_ hne_ hk_ hb_
  go_wp2_with fail
  rw [rounds_succ]
  have c0_0 := HB0_4.out.cell 0 rfl
  go_wp2_with fail
  refine ((HSNX.out ▸ rsign_c (-n.x) _)).mono ?_; rintro e _ ⟨rfl, rfl⟩
  clear c0_0
  have c0_1 := HB0_4.out.cell 1 rfl
  go_wp2_with fail
  refine ((HSNY.out ▸ rsign_c (-n.y) _)).mono ?_; rintro e _ ⟨rfl, rfl⟩
  clear c0_1
  have c0_0 := HB0_4.out.cell 0 rfl
  have c0_1 := HB0_4.out.cell 1 rfl
  go_wp2_with fail
  refine (rcompare_c (-n.x) (-n.y) _ (HG.out.ext HX4.out) HN.out.x.neg HN.out.y.neg (by omega) (by omega)).mono ?_; rintro e w5 ⟨rfl, e5⟩
  have HX5 : Hid (Ext w w5) := Lib.hid (HX4.out.trans e5)
  have HB0_5 := Lib.hid (Blk.ext HB0_4.out e5)
  have HB1_5 := Lib.hid (Blk.ext HB1_4.out e5)
  clear e5 c0_0 c0_1
  have c0_0 := HB0_5.out.cell 0 rfl
  have c0_1 := HB0_5.out.cell 1 rfl
  go_wp2_with fail
  refine (ldiv_c (-n.x) (-n.y) _ (HG.out.ext HX5.out) HN.out.x.neg HN.out.y.neg (by omega) (by omega) (by omega) (ne_of_sgn HSNY.out)).mono ?_; rintro e w6 ⟨rfl, e6⟩
  have HX6 : Hid (Ext w w6) := Lib.hid (HX5.out.trans e6)
  have HB1_6 := Lib.hid (Blk.ext HB1_5.out e6)
  clear e6 c0_0 c0_1
  have c1_0 := HB1_6.out.cell 0 rfl
  have f1_0 := HB1_6.out.free 0
  have c1_1 := HB1_6.out.cell 1 rfl
  have f1_1 := HB1_6.out.free 1
  go_wp2_with fail
  refine wp_name (fun W => Ext w W ∧ Blk W (w.heap.size + 1) #[.int .i64 4, .string (qs (-n.x / -n.y))] 28) ⟨((HX6.out.setCell (by have := HGEB1.out; first | omega | (simp only []; omega) | (simp; omega)) _).setCell (by have := HGEB1.out; first | omega | (simp only []; omega) | (simp; omega)) _), ((HB1_6.out.set 0 (.int .i64 4)).set 1 (.string (qs (-n.x / -n.y))))⟩ ?_
  rintro w7 ⟨e7, bB1_7⟩
  have HX7 := Lib.hid e7; have HB1_7 := Lib.hid bB1_7
  clear e7 bB1_7 c1_0 f1_0 c1_1 f1_1
  have gB1_0 := HB1_7.out.cell 0 rfl
  have gB1_1 := HB1_7.out.cell 1 rfl
  refine bodyPost_ret (v := .agg #[.int .i64 4, .string (qs (-n.x / -n.y))]) (by simp [results, Tryz.results16, go_sem, gB1_0, gB1_1]) rfl ⟨rfl, HX7.out⟩

set_option maxRecDepth 100000 in
set_option maxHeartbeats 4000000 in
theorem lcomp_mm_ge (n : P2) (w : World) (g : Gd w) (hn : PB 24 n) (hsx : n.x.num.sign = -1) (hsy : n.y.num.sign = -1) (hc : ¬ qcmp (-n.x) (-n.y) < 0) : Calls Tryz.prog 16 #[.agg #[.string (qs n.x), .string (qs n.y)]] w (Ret w (.agg #[.int .i64 5, .string (qs (-n.y / -n.x))])) := by
  have HN := Lib.hid hn
  have HSX := Lib.hid hsx
  have HSY := Lib.hid hsy
  have HG := Lib.hid g
  clear hn hsx hsy g
  have HSNX : Hid ((-n.x).num.sign = 1) := Lib.hid (sgn_neg HSX.out (by decide)); have HSNY : Hid ((-n.y).num.sign = 1) := Lib.hid (sgn_neg HSY.out (by decide))
  have hc_d : decide (qcmp (-n.x) (-n.y) < 0) = false := decide_eq_false hc
  clear hc
  go_enter Tryz.func16, Tryz.ntmps16
  go_wp2_with fail
  refine wp_loop_rounds 3 ?_
  rw [rounds_succ]
  go_wp2_with fail
  refine ((HSX.out ▸ rsign_c n.x _)).mono ?_; rintro e _ ⟨rfl, rfl⟩
  go_wp2_with fail
  refine wp_name (fun W => Ext w W ∧ Blk W (w.heap.size) #[.string (qs n.x), .string (qs n.y)] 24 ∧ Blk W (w.heap.size + 1) #[.int .i64 0, .string ⟨#[]⟩] 28) ⟨(((Ext.refl w).alloc _).alloc _), ((Blk.new' (w := _) (cs := #[.string (qs n.x), .string (qs n.y)]) (t := 24) (by first | rfl | (simp only [World.size_alloc]; done) | (simp only [World.size_alloc]; omega) | simp)).alloc _), (Blk.new' (w := _) (cs := #[.int .i64 0, .string ⟨#[]⟩]) (t := 28) (by first | rfl | (simp only [World.size_alloc]; done) | (simp only [World.size_alloc]; omega) | simp))⟩ ?_
  rintro w1 ⟨e1, bB0_1, bB1_1⟩
  have HX1 := Lib.hid e1; have HB0_1 := Lib.hid bB0_1; have HB1_1 := Lib.hid bB1_1
  have HGEB0 : Hid (w.heap.size ≤ w.heap.size) := Lib.hid (by first | omega | (simp only []; omega) | (simp; omega))
  have HGEB1 : Hid (w.heap.size ≤ w.heap.size + 1) := Lib.hid (by first | omega | (simp only []; omega) | (simp; omega))
  clear e1 bB0_1 bB1_1
  refine region_lin_s (X := w) [⟨w.heap.size, #[.string (qs n.x), .string (qs n.y)], #[.string (qs (-n.y)), .string (qs n.x)], 24⟩] [.val (.pointer (some ⟨w.heap.size, 1, none⟩)), .val (.string (qs n.y)), .val (.string (qs (-n.y))), .val (.pointer (some ⟨w.heap.size, 0, none⟩)), .val (.string (qs n.x)), .val (.agg #[.string (qs (-n.y)), .string (qs n.x)]), .st 0] (by kernel_rfl) (by kernel_rfl) (by kernel_rfl) HX1.out.drew (List.forall_mem_cons.2 ⟨⟨HGEB0.out, HB0_1.out.drew⟩, (fun _ h => by cases h)⟩) dis1 ?_ (fun g1 w2 hx_ hk_ hb_ hm_ hne_ => ?_)
  · skip
    refine RnL.cons (fun g1 A_ W_ hs_ => ?_) ?_
    · have q1_ := (hs_.old 1 (by kernel_rfl) : A_.tmps[1]?.getD undef = .pointer (some ⟨w.heap.size, 0, none⟩))
      refine Rn.val fun K_ hK_ => ?_
      go_simp
      exact hK_.out _ (Ext.refl _)
    refine RnL.cons (fun g1 A_ W_ hs_ => ?_) ?_
    · have q41_ := hs_.val 0 rfl rfl rfl
      have cB0_1 := ((hs_.ob 0 rfl (by kernel_rfl))).cell 1 rfl
      refine Rn.val fun K_ hK_ => ?_
      go_simp
      exact hK_.out _ (Ext.refl _)
    refine RnL.cons (fun g1 A_ W_ hs_ => ?_) ?_
    · have q42_ := hs_.val 1 rfl rfl rfl
      refine Rn.val fun K_ hK_ => ?_
      go_simp
      refine (rneg_c n.y _ HN.out.y (by omega)).mono ?_; rintro e W9_ ⟨rfl, e9_⟩; exact hK_.out _ e9_
    refine RnL.cons (fun g1 A_ W_ hs_ => ?_) ?_
    · have q1_ := (hs_.old 1 (by kernel_rfl) : A_.tmps[1]?.getD undef = .pointer (some ⟨w.heap.size, 0, none⟩))
      refine Rn.val fun K_ hK_ => ?_
      go_simp
      exact hK_.out _ (Ext.refl _)
    refine RnL.cons (fun g1 A_ W_ hs_ => ?_) ?_
    · have q44_ := hs_.val 3 rfl rfl rfl
      have cB0_0 := ((hs_.ob 0 rfl (by kernel_rfl))).cell 0 rfl
      refine Rn.val fun K_ hK_ => ?_
      go_simp
      exact hK_.out _ (Ext.refl _)
    refine RnL.cons (fun g1 A_ W_ hs_ => ?_) ?_
    · have q43_ := hs_.val 2 rfl rfl rfl
      have q45_ := hs_.val 4 rfl rfl rfl
      refine Rn.val fun K_ hK_ => ?_
      go_simp
      exact hK_.out _ (Ext.refl _)
    refine RnL.cons (fun g1 A_ W_ hs_ => ?_) ?_
    · have q1_ := (hs_.old 1 (by kernel_rfl) : A_.tmps[1]?.getD undef = .pointer (some ⟨w.heap.size, 0, none⟩))
      have q46_ := hs_.val 5 rfl rfl rfl
      refine Rn.st (n := 0) rfl fun hB0 K_ hK_ => ?_
      have hB : Blk W_ (w.heap.size) #[.string (qs n.x), .string (qs n.y)] 24 := hB0; clear hB0
      have c_0 := hB.cell 0 rfl; have f_0 := hB.free 0
      have c_1 := hB.cell 1 rfl; have f_1 := hB.free 1
      have HB := Lib.hid hB; clear hB
      go_simp
      exact hK_.out _ (((Only.refl _ _).set 0 _).set 1 _) ((HB.out.set 0 _).set 1 _)
    exact RnL.nil
  simp only [fs, Kd.value, puts, Act.put, List.setIfInBounds_toArray, List.set_cons_zero, List.set_cons_succ]
  have HX2 : Hid (Ext w w2) := Lib.hid hx_
  have HB0_2 : Hid (Blk w2 (w.heap.size) #[.string (qs (-n.y)), .string (qs n.x)] 24) := Lib.hid (hb_ 0 _ rfl)
  have HB1_2 : Hid (Blk w2 (w.heap.size + 1) #[.int .i64 0, .string ⟨#[]⟩] 28) := Lib.hid (hk_ _ _ _ (fm2 (show w.heap.size ≠ w.heap.size + 1 from by first | omega | (simp only []; omega) | (simp; omega)) fm0) HB1_1.out.drew)
  clear hx_ hm_ hne_ hk_ hb_
  go_wp2_with fail
  rw [rounds_succ]
  have c0_0 := HB0_2.out.cell 0 rfl
  go_wp2_with fail
  refine ((HSNY.out ▸ rsign_c (-n.y) _)).mono ?_; rintro e _ ⟨rfl, rfl⟩
  clear c0_0
  have c0_1 := HB0_2.out.cell 1 rfl
  go_wp2_with fail
  refine ((HSX.out ▸ rsign_c n.x _)).mono ?_; rintro e _ ⟨rfl, rfl⟩
  clear c0_1
  go_wp2_with fail
  refine wp_name (fun W => Ext w W ∧ Blk W (w.heap.size) #[.string (qs (-n.y)), .string (qs n.x)] 24 ∧ Blk W (w.heap.size + 1) #[.int .i64 0, .string ⟨#[]⟩] 28) ⟨HX2.out, HB0_2.out, HB1_2.out⟩ ?_
  rintro w3 ⟨e3, bB0_3, bB1_3⟩
  have HX3 := Lib.hid e3; have HB0_3 := Lib.hid bB0_3; have HB1_3 := Lib.hid bB1_3
  clear e3 bB0_3 bB1_3
  refine region_lin_s (X := w) [⟨w.heap.size, #[.string (qs (-n.y)), .string (qs n.x)], #[.string (qs (-n.x)), .string (qs (-n.y))], 24⟩] [.val (.pointer (some ⟨w.heap.size, 1, none⟩)), .val (.string (qs n.x)), .val (.string (qs (-n.x))), .val (.pointer (some ⟨w.heap.size, 0, none⟩)), .val (.string (qs (-n.y))), .val (.agg #[.string (qs (-n.x)), .string (qs (-n.y))]), .st 0] (by kernel_rfl) (by kernel_rfl) (by kernel_rfl) HX3.out.drew (List.forall_mem_cons.2 ⟨⟨HGEB0.out, HB0_3.out.drew⟩, (fun _ h => by cases h)⟩) dis1 ?_ (fun g3 w4 hx_ hk_ hb_ hm_ hne_ => ?_)
  · skip
    refine RnL.cons (fun g3 A_ W_ hs_ => ?_) ?_
    · have q1_ := (hs_.old 1 (by kernel_rfl) : A_.tmps[1]?.getD undef = .pointer (some ⟨w.heap.size, 0, none⟩))
      refine Rn.val fun K_ hK_ => ?_
      go_simp
      exact hK_.out _ (Ext.refl _)
    refine RnL.cons (fun g3 A_ W_ hs_ => ?_) ?_
    · have q41_ := hs_.val 0 rfl rfl rfl
      have cB0_1 := ((hs_.ob 0 rfl (by kernel_rfl))).cell 1 rfl
      refine Rn.val fun K_ hK_ => ?_
      go_simp
      exact hK_.out _ (Ext.refl _)
    refine RnL.cons (fun g3 A_ W_ hs_ => ?_) ?_
    · have q42_ := hs_.val 1 rfl rfl rfl
      refine Rn.val fun K_ hK_ => ?_
      go_simp
      refine (rneg_c n.x _ HN.out.x (by omega)).mono ?_; rintro e W9_ ⟨rfl, e9_⟩; exact hK_.out _ e9_
    refine RnL.cons (fun g3 A_ W_ hs_ => ?_) ?_
    · have q1_ := (hs_.old 1 (by kernel_rfl) : A_.tmps[1]?.getD undef = .pointer (some ⟨w.heap.size, 0, none⟩))
      refine Rn.val fun K_ hK_ => ?_
      go_simp
      exact hK_.out _ (Ext.refl _)
    refine RnL.cons (fun g3 A_ W_ hs_ => ?_) ?_
    · have q44_ := hs_.val 3 rfl rfl rfl
      have cB0_0 := ((hs_.ob 0 rfl (by kernel_rfl))).cell 0 rfl
      refine Rn.val fun K_ hK_ => ?_
      go_simp
      exact hK_.out _ (Ext.refl _)
    refine RnL.cons (fun g3 A_ W_ hs_ => ?_) ?_
    · have q43_ := hs_.val 2 rfl rfl rfl
      have q45_ := hs_.val 4 rfl rfl rfl
      refine Rn.val fun K_ hK_ => ?_
      go_simp
      exact hK_.out _ (Ext.refl _)
    refine RnL.cons (fun g3 A_ W_ hs_ => ?_) ?_
    · have q1_ := (hs_.old 1 (by kernel_rfl) : A_.tmps[1]?.getD undef = .pointer (some ⟨w.heap.size, 0, none⟩))
      have q46_ := hs_.val 5 rfl rfl rfl
      refine Rn.st (n := 0) rfl fun hB0 K_ hK_ => ?_
      have hB : Blk W_ (w.heap.size) #[.string (qs (-n.y)), .string (qs n.x)] 24 := hB0; clear hB0
      have c_0 := hB.cell 0 rfl; have f_0 := hB.free 0
      have c_1 := hB.cell 1 rfl; have f_1 := hB.free 1
      have HB := Lib.hid hB; clear hB
      go_simp
      exact hK_.out _ (((Only.refl _ _).set 0 _).set 1 _) ((HB.out.set 0 _).set 1 _)
    exact RnL.nil
  simp only [fs, Kd.value, puts, Act.put, List.setIfInBounds_toArray, List.set_cons_zero, List.set_cons_succ]
  have HX4 : Hid (Ext w w4) := Lib.hid hx_
  have HB0_4 : Hid (Blk w4 (w.heap.size) #[.string (qs (-n.x)), .string (qs (-n.y))] 24) := Lib.hid (hb_ 0 _ rfl)
  have HB1_4 : Hid (Blk w4 (w.heap.size + 1) #[.int .i64 0, .string ⟨#[]⟩] 28) := Lib.hid (hk_ _ _ _ (fm2 (show w.heap.size ≠ w.heap.size + 1 from by first | omega | (simp only []; omega) | (simp; omega)) fm0) HB1_3.out.drew)
  clear hx_ hm_ hne_ hk_ hb_
  go_wp2_with fail
  rw [rounds_succ]
  have c0_0 := HB0_4.out.cell 0 rfl
  go_wp2_with fail
  refine ((HSNX.out ▸ rsign_c (-n.x) _)).mono ?_; rintro e _ ⟨rfl, rfl⟩
  clear c0_0
  have c0_1 := HB0_4.out.cell 1 rfl
  go_wp2_with fail
  refine ((HSNY.out ▸ rsign_c (-n.y) _)).mono ?_; rintro e _ ⟨rfl, rfl⟩
  clear c0_1
  have c0_0 := HB0_4.out.cell 0 rfl
  have c0_1 := HB0_4.out.cell 1 rfl
  go_wp2_with fail
  refine (rcompare_c (-n.x) (-n.y) _ (HG.out.ext HX4.out) HN.out.x.neg HN.out.y.neg (by omega) (by omega)).mono ?_; rintro e w5 ⟨rfl, e5⟩
  have HX5 : Hid (Ext w w5) := Lib.hid (HX4.out.trans e5)
  have HB0_5 := Lib.hid (Blk.ext HB0_4.out e5)
  have HB1_5 := Lib.hid (Blk.ext HB1_4.out e5)
  clear e5 c0_0 c0_1
  have c0_1 := HB0_5.out.cell 1 rfl
  have c0_0 := HB0_5.out.cell 0 rfl
  go_wp2_with fail
  refine (ldiv_c (-n.y) (-n.x) _ (HG.out.ext HX5.out) HN.out.y.neg HN.out.x.neg (by omega) (by omega) (by omega) (ne_of_sgn HSNX.out)).mono ?_; rintro e w6 ⟨rfl, e6⟩
  have HX6 : Hid (Ext w w6) := Lib.hid (HX5.out.trans e6)
  have HB1_6 := Lib.hid (Blk.ext HB1_5.out e6)
  clear e6 c0_1 c0_0
  have c1_0 := HB1_6.out.cell 0 rfl
  have f1_0 := HB1_6.out.free 0
  have c1_1 := HB1_6.out.cell 1 rfl
  have f1_1 := HB1_6.out.free 1
  go_wp2_with fail
  refine wp_name (fun W => Ext w W ∧ Blk W (w.heap.size + 1) #[.int .i64 5, .string (qs (-n.y / -n.x))] 28) ⟨((HX6.out.setCell (by have := HGEB1.out; first | omega | (simp only []; omega) | (simp; omega)) _).setCell (by have := HGEB1.out; first | omega | (simp only []; omega) | (simp; omega)) _), ((HB1_6.out.set 0 (.int .i64 5)).set 1 (.string (qs (-n.y / -n.x))))⟩ ?_
  rintro w7 ⟨e7, bB1_7⟩
  have HX7 := Lib.hid e7; have HB1_7 := Lib.hid bB1_7
  clear e7 bB1_7 c1_0 f1_0 c1_1 f1_1
  have gB1_0 := HB1_7.out.cell 0 rfl
  have gB1_1 := HB1_7.out.cell 1 rfl
  refine bodyPost_ret (v := .agg #[.int .i64 5, .string (qs (-n.y / -n.x))]) (by simp [results, Tryz.results16, go_sem, gB1_0, gB1_1]) rfl ⟨rfl, HX7.out⟩

set_option maxRecDepth 100000 in
set_option maxHeartbeats 4000000 in
theorem lcomp_mz_lt (n : P2) (w : World) (g : Gd w) (hn : PB 24 n) (hsx : n.x.num.sign = -1) (hsy : n.y.num.sign = 0) (hc : qcmp n.y (-n.x) < 0) : Calls Tryz.prog 16 #[.agg #[.string (qs n.x), .string (qs n.y)]] w (Ret w (.agg #[.int .i64 6, .string (qs (n.y / -n.x))])) := by
  have HN := Lib.hid hn
  have HSX := Lib.hid hsx
  have HSY := Lib.hid hsy
  have HG := Lib.hid g
  clear hn hsx hsy g
  have HSNX : Hid ((-n.x).num.sign = 1) := Lib.hid (sgn_neg HSX.out (by decide)); have HSNY : Hid ((-n.y).num.sign = 0) := Lib.hid (sgn_neg HSY.out (by decide))
  have hc_d : decide (qcmp n.y (-n.x) < 0) = true := decide_eq_true hc
  clear hc
  go_enter Tryz.func16, Tryz.ntmps16
  go_wp2_with fail
  refine wp_loop_rounds 4 ?_
  rw [rounds_succ]
  go_wp2_with fail
  refine ((HSX.out ▸ rsign_c n.x _)).mono ?_; rintro e _ ⟨rfl, rfl⟩
  go_wp2_with fail
  refine wp_name (fun W => Ext w W ∧ Blk W (w.heap.size) #[.string (qs n.x), .string (qs n.y)] 24 ∧ Blk W (w.heap.size + 1) #[.int .i64 0, .string ⟨#[]⟩] 28) ⟨(((Ext.refl w).alloc _).alloc _), ((Blk.new' (w := _) (cs := #[.string (qs n.x), .string (qs n.y)]) (t := 24) (by first | rfl | (simp only [World.size_alloc]; done) | (simp only [World.size_alloc]; omega) | simp)).alloc _), (Blk.new' (w := _) (cs := #[.int .i64 0, .string ⟨#[]⟩]) (t := 28) (by first | rfl | (simp only [World.size_alloc]; done) | (simp only [World.size_alloc]; omega) | simp))⟩ ?_
  rintro w1 ⟨e1, bB0_1, bB1_1⟩
  have HX1 := Lib.hid e1; have HB0_1 := Lib.hid bB0_1; have HB1_1 := Lib.hid bB1_1
  have HGEB0 : Hid (w.heap.size ≤ w.heap.size) := Lib.hid (by first | omega | (simp only []; omega) | (simp; omega))
  have HGEB1 : Hid (w.heap.size ≤ w.heap.size + 1) := Lib.hid (by first | omega | (simp only []; omega) | (simp; omega))
  clear e1 bB0_1 bB1_1
  refine region_lin_s (X := w) [⟨w.heap.size, #[.string (qs n.x), .string (qs n.y)], #[.string (qs (-n.y)), .string (qs n.x)], 24⟩] [.val (.pointer (some ⟨w.heap.size, 1, none⟩)), .val (.string (qs n.y)), .val (.string (qs (-n.y))), .val (.pointer (some ⟨w.heap.size, 0, none⟩)), .val (.string (qs n.x)), .val (.agg #[.string (qs (-n.y)), .string (qs n.x)]), .st 0] (by kernel_rfl) (by kernel_rfl) (by kernel_rfl) HX1.out.drew (List.forall_mem_cons.2 ⟨⟨HGEB0.out, HB0_1.out.drew⟩, (fun _ h => by cases h)⟩) dis1 ?_ (fun g1 w2 hx_ hk_ hb_ hm_ hne_ => ?_)
  · skip
    refine RnL.cons (fun g1 A_ W_ hs_ => ?_) ?_
    · have q1_ := (hs_.old 1 (by kernel_rfl) : A_.tmps[1]?.getD undef = .pointer (some ⟨w.heap.size, 0, none⟩))
      refine Rn.val fun K_ hK_ => ?_
      go_simp
      exact hK_.out _ (Ext.refl _)
    refine RnL.cons (fun g1 A_ W_ hs_ => ?_) ?_
    · have q41_ := hs_.val 0 rfl rfl rfl
      have cB0_1 := ((hs_.ob 0 rfl (by kernel_rfl))).cell 1 rfl
      refine Rn.val fun K_ hK_ => ?_
      go_simp
      exact hK_.out _ (Ext.refl _)
    refine RnL.cons (fun g1 A_ W_ hs_ => ?_) ?_
    · have q42_ := hs_.val 1 rfl rfl rfl
      refine Rn.val fun K_ hK_ => ?_
      go_simp
      refine (rneg_c n.y _ HN.out.y (by omega)).mono ?_; rintro e W9_ ⟨rfl, e9_⟩; exact hK_.out _ e9_
    refine RnL.cons (fun g1 A_ W_ hs_ => ?_) ?_
    · have q1_ := (hs_.old 1 (by kernel_rfl) : A_.tmps[1]?.getD undef = .pointer (some ⟨w.heap.size, 0, none⟩))
      refine Rn.val fun K_ hK_ => ?_
      go_simp
      exact hK_.out _ (Ext.refl _)
    refine RnL.cons (fun g1 A_ W_ hs_ => ?_) ?_
    · have q44_ := hs_.val 3 rfl rfl rfl
      have cB0_0 := ((hs_.ob 0 rfl (by kernel_rfl))).cell 0 rfl
      refine Rn.val fun K_ hK_ => ?_
      go_simp
      exact hK_.out _ (Ext.refl _)
    refine RnL.cons (fun g1 A_ W_ hs_ => ?_) ?_
    · have q43_ := hs_.val 2 rfl rfl rfl
      have q45_ := hs_.val 4 rfl rfl rfl
      refine Rn.val fun K_ hK_ => ?_
      go_simp
      exact hK_.out _ (Ext.refl _)
    refine RnL.cons (fun g1 A_ W_ hs_ => ?_) ?_
    · have q1_ := (hs_.old 1 (by kernel_rfl) : A_.tmps[1]?.getD undef = .pointer (some ⟨w.heap.size, 0, none⟩))
      have q46_ := hs_.val 5 rfl rfl rfl
      refine Rn.st (n := 0) rfl fun hB0 K_ hK_ => ?_
      have hB : Blk W_ (w.heap.size) #[.string (qs n.x), .string (qs n.y)] 24 := hB0; clear hB0
      have c_0 := hB.cell 0 rfl; have f_0 := hB.free 0
      have c_1 := hB.cell 1 rfl; have f_1 := hB.free 1
      have HB := Lib.hid hB; clear hB
      go_simp
      exact hK_.out _ (((Only.refl _ _).set 0 _).set 1 _) ((HB.out.set 0 _).set 1 _)
    exact RnL.nil
  simp only [fs, Kd.value, puts, Act.put, List.setIfInBounds_toArray, List.set_cons_zero, List.set_cons_succ]
  have HX2 : Hid (Ext w w2) := Lib.hid hx_
  have HB0_2 : Hid (Blk w2 (w.heap.size) #[.string (qs (-n.y)), .string (qs n.x)] 24) := Lib.hid (hb_ 0 _ rfl)
  have HB1_2 : Hid (Blk w2 (w.heap.size + 1) #[.int .i64 0, .string ⟨#[]⟩] 28) := Lib.hid (hk_ _ _ _ (fm2 (show w.heap.size ≠ w.heap.size + 1 from by first | omega | (simp only []; omega) | (simp; omega)) fm0) HB1_1.out.drew)
  clear hx_ hm_ hne_ hk_ hb_
  go_wp2_with fail
  rw [rounds_succ]
  have c0_0 := HB0_2.out.cell 0 rfl
  go_wp2_with fail
  refine ((HSNY.out ▸ rsign_c (-n.y) _)).mono ?_; rintro e _ ⟨rfl, rfl⟩
  clear c0_0
  have c0_1 := HB0_2.out.cell 1 rfl
  go_wp2_with fail
  refine ((HSX.out ▸ rsign_c n.x _)).mono ?_; rintro e _ ⟨rfl, rfl⟩
  clear c0_1
  go_wp2_with fail
  refine wp_name (fun W => Ext w W ∧ Blk W (w.heap.size) #[.string (qs (-n.y)), .string (qs n.x)] 24 ∧ Blk W (w.heap.size + 1) #[.int .i64 0, .string ⟨#[]⟩] 28) ⟨HX2.out, HB0_2.out, HB1_2.out⟩ ?_
  rintro w3 ⟨e3, bB0_3, bB1_3⟩
  have HX3 := Lib.hid e3; have HB0_3 := Lib.hid bB0_3; have HB1_3 := Lib.hid bB1_3
  clear e3 bB0_3 bB1_3
  refine region_lin_s (X := w) [⟨w.heap.size, #[.string (qs (-n.y)), .string (qs n.x)], #[.string (qs (-n.x)), .string (qs (-n.y))], 24⟩] [.val (.pointer (some ⟨w.heap.size, 1, none⟩)), .val (.string (qs n.x)), .val (.string (qs (-n.x))), .val (.pointer (some ⟨w.heap.size, 0, none⟩)), .val (.string (qs (-n.y))), .val (.agg #[.string (qs (-n.x)), .string (qs (-n.y))]), .st 0] (by kernel_rfl) (by kernel_rfl) (by kernel_rfl) HX3.out.drew (List.forall_mem_cons.2 ⟨⟨HGEB0.out, HB0_3.out.drew⟩, (fun _ h => by cases h)⟩) dis1 ?_ (fun g3 w4 hx_ hk_ hb_ hm_ hne_ => ?_)
  · skip
    refine RnL.cons (fun g3 A_ W_ hs_ => ?_) ?_
    · have q1_ := (hs_.old 1 (by kernel_rfl) : A_.tmps[1]?.getD undef = .pointer (some ⟨w.heap.size, 0, none⟩))
      refine Rn.val fun K_ hK_ => ?_
      go_simp
      exact hK_.out _ (Ext.refl _)
    refine RnL.cons (fun g3 A_ W_ hs_ => ?_) ?_
    · have q41_ := hs_.val 0 rfl rfl rfl
      have cB0_1 := ((hs_.ob 0 rfl (by kernel_rfl))).cell 1 rfl
      refine Rn.val fun K_ hK_ => ?_
      go_simp
      exact hK_.out _ (Ext.refl _)
    refine RnL.cons (fun g3 A_ W_ hs_ => ?_) ?_
    · have q42_ := hs_.val 1 rfl rfl rfl
      refine Rn.val fun K_ hK_ => ?_
      go_simp
      refine (rneg_c n.x _ HN.out.x (by omega)).mono ?_; rintro e W9_ ⟨rfl, e9_⟩; exact hK_.out _ e9_
    refine RnL.cons (fun g3 A_ W_ hs_ => ?_) ?_
    · have q1_ := (hs_.old 1 (by kernel_rfl) : A_.tmps[1]?.getD undef = .pointer (some ⟨w.heap.size, 0, none⟩))
      refine Rn.val fun K_ hK_ => ?_
      go_simp
      exact hK_.out _ (Ext.refl _)
    refine RnL.cons (fun g3 A_ W_ hs_ => ?_) ?_
    · have q44_ := hs_.val 3 rfl rfl rfl
      have cB0_0 := ((hs_.ob 0 rfl (by kernel_rfl))).cell 0 rfl
      refine Rn.val fun K_ hK_ => ?_
      go_simp
      exact hK_.out _ (Ext.refl _)
    refine RnL.cons (fun g3 A_ W_ hs_ => ?_) ?_
    · have q43_ := hs_.val 2 rfl rfl rfl
      have q45_ := hs_.val 4 rfl rfl rfl
      refine Rn.val fun K_ hK_ => ?_
      go_simp
      exact hK_.out _ (Ext.refl _)
    refine RnL.cons (fun g3 A_ W_ hs_ => ?_) ?_
    · have q1_ := (hs_.old 1 (by kernel_rfl) : A_.tmps[1]?.getD undef = .pointer (some ⟨w.heap.size, 0, none⟩))
      have q46_ := hs_.val 5 rfl rfl rfl
      refine Rn.st (n := 0) rfl fun hB0 K_ hK_ => ?_
      have hB : Blk W_ (w.heap.size) #[.string (qs (-n.y)), .string (qs n.x)] 24 := hB0; clear hB0
      have c_0 := hB.cell 0 rfl; have f_0 := hB.free 0
      have c_1 := hB.cell 1 rfl; have f_1 := hB.free 1
      have HB := Lib.hid hB; clear hB
      go_simp
      exact hK_.out _ (((Only.refl _ _).set 0 _).set 1 _) ((HB.out.set 0 _).set 1 _)
    exact RnL.nil
  simp only [fs, Kd.value, puts, Act.put, List.setIfInBounds_toArray, List.set_cons_zero, List.set_cons_succ]
  have HX4 : Hid (Ext w w4) := Lib.hid hx_
  have HB0_4 : Hid (Blk w4 (w.heap.size) #[.string (qs (-n.x)), .string (qs (-n.y))] 24) := Lib.hid (hb_ 0 _ rfl)
  have HB1_4 : Hid (Blk w4 (w.heap.size + 1) #[.int .i64 0, .string ⟨#[]⟩] 28) := Lib.hid (hk_ _ _ _ (fm2 (show w.heap.size ≠ w.heap.size + 1 from by first | omega | (simp only []; omega) | (simp; omega)) fm0) HB1_3.out.drew)
  clear hx_ hm_ hne_ hk_ hb_
  go_wp2_with fail
  rw [rounds_succ]
  have c0_0 := HB0_4.out.cell 0 rfl
  go_wp2_with fail
  refine ((HSNX.out ▸ rsign_c (-n.x) _)).mono ?_; rintro e _ ⟨rfl, rfl⟩
  clear c0_0
  have c0_1 := HB0_4.out.cell 1 rfl
  go_wp2_with fail
  refine ((HSNY.out ▸ rsign_c (-n.y) _)).mono ?_; rintro e _ ⟨rfl, rfl⟩
  clear c0_1
  go_wp2_with fail
  refine wp_name (fun W => Ext w W ∧ Blk W (w.heap.size) #[.string (qs (-n.x)), .string (qs (-n.y))] 24 ∧ Blk W (w.heap.size + 1) #[.int .i64 0, .string ⟨#[]⟩] 28) ⟨HX4.out, HB0_4.out, HB1_4.out⟩ ?_
  rintro w5 ⟨e5, bB0_5, bB1_5⟩
  have HX5 := Lib.hid e5; have HB0_5 := Lib.hid bB0_5; have HB1_5 := Lib.hid bB1_5
  clear e5 bB0_5 bB1_5
  refine region_lin_s (X := w) [⟨w.heap.size, #[.string (qs (-n.x)), .string (qs (-n.y))], #[.string (qs n.y), .string (qs (-n.x))], 24⟩] [.val (.pointer (some ⟨w.heap.size, 1, none⟩)), .val (.string (qs (-n.y))), .val (.string (qs n.y)), .val (.pointer (some ⟨w.heap.size, 0, none⟩)), .val (.string (qs (-n.x))), .val (.agg #[.string (qs n.y), .string (qs (-n.x))]), .st 0] (by kernel_rfl) (by kernel_rfl) (by kernel_rfl) HX5.out.drew (List.forall_mem_cons.2 ⟨⟨HGEB0.out, HB0_5.out.drew⟩, (fun _ h => by cases h)⟩) dis1 ?_ (fun g5 w6 hx_ hk_ hb_ hm_ hne_ => ?_)
  · skip
    refine RnL.cons (fun g5 A_ W_ hs_ => ?_) ?_
    · have q1_ := (hs_.old 1 (by kernel_rfl) : A_.tmps[1]?.getD undef = .pointer (some ⟨w.heap.size, 0, none⟩))
      refine Rn.val fun K_ hK_ => ?_
      go_simp
      exact hK_.out _ (Ext.refl _)
    refine RnL.cons (fun g5 A_ W_ hs_ => ?_) ?_
    · have q41_ := hs_.val 0 rfl rfl rfl
      have cB0_1 := ((hs_.ob 0 rfl (by kernel_rfl))).cell 1 rfl
      refine Rn.val fun K_ hK_ => ?_
      go_simp
      exact hK_.out _ (Ext.refl _)
    refine RnL.cons (fun g5 A_ W_ hs_ => ?_) ?_
    · have q42_ := hs_.val 1 rfl rfl rfl
      refine Rn.val fun K_ hK_ => ?_
      go_simp
      refine (rneg_neg n.y _ HN.out.y (by decide)).mono ?_; rintro e W9_ ⟨rfl, e9_⟩; exact hK_.out _ e9_
    refine RnL.cons (fun g5 A_ W_ hs_ => ?_) ?_
    · have q1_ := (hs_.old 1 (by kernel_rfl) : A_.tmps[1]?.getD undef = .pointer (some ⟨w.heap.size, 0, none⟩))
      refine Rn.val fun K_ hK_ => ?_
      go_simp
      exact hK_.out _ (Ext.refl _)
    refine RnL.cons (fun g5 A_ W_ hs_ => ?_) ?_
    · have q44_ := hs_.val 3 rfl rfl rfl
      have cB0_0 := ((hs_.ob 0 rfl (by kernel_rfl))).cell 0 rfl
      refine Rn.val fun K_ hK_ => ?_
      go_simp
      exact hK_.out _ (Ext.refl _)
    refine RnL.cons (fun g5 A_ W_ hs_ => ?_) ?_
    · have q43_ := hs_.val 2 rfl rfl rfl
      have q45_ := hs_.val 4 rfl rfl rfl
      refine Rn.val fun K_ hK_ => ?_
      go_simp
      exact hK_.out _ (Ext.refl _)
    refine RnL.cons (fun g5 A_ W_ hs_ => ?_) ?_
    · have q1_ := (hs_.old 1 (by kernel_rfl) : A_.tmps[1]?.getD undef = .pointer (some ⟨w.heap.size, 0, none⟩))
      have q46_ := hs_.val 5 rfl rfl rfl
      refine Rn.st (n := 0) rfl fun hB0 K_ hK_ => ?_
      have hB : Blk W_ (w.heap.size) #[.string (qs (-n.x)), .string (qs (-n.y))] 24 := hB0; clear hB0
      have c_0 := hB.cell 0 rfl; have f_0 := hB.free 0
      have c_1 := hB.cell 1 rfl; have f_1 := hB.free 1
      have HB := Lib.hid hB; clear hB
      go_simp
      exact hK_.out _ (((Only.refl _ _).set 0 _).set 1 _) ((HB.out.set 0 _).set 1 _)
    exact RnL.nil
  simp only [fs, Kd.value, puts, Act.put, List.setIfInBounds_toArray, List.set_cons_zero, List.set_cons_succ]
  have HX6 : Hid (Ext w w6) := Lib.hid hx_
  have HB0_6 : Hid (Blk w6 (w.heap.size) #[.string (qs n.y), .string (qs (-n.x))] 24) := Lib.hid (hb_ 0 _ rfl)
  have HB1_6 : Hid (Blk w6 (w.heap.size + 1) #[.int .i64 0, .string ⟨#[]⟩] 28) := Lib.hid (hk_ _ _ _ (fm2 (show w.heap.size ≠ w.heap.size + 1 from by first | omega | (simp only []; omega) | (simp; omega)) fm0) HB1_5.out.drew)
  clear hx_ hm_ hne_ hk_ hb_
  go_wp2_with fail
  rw [rounds_succ]
  have c0_0 := HB0_6.out.cell 0 rfl
  go_wp2_with fail
  refine ((HSY.out ▸ rsign_c n.y _)).mono ?_; rintro e _ ⟨rfl, rfl⟩
  clear c0_0
  have c0_1 := HB0_6.out.cell 1 rfl
  go_wp2_with fail
  refine ((HSNX.out ▸ rsign_c (-n.x) _)).mono ?_; rintro e _ ⟨rfl, rfl⟩
  clear c0_1
  have c0_0 := HB0_6.out.cell 0 rfl
  have c0_1 := HB0_6.out.cell 1 rfl
  go_wp2_with fail
  refine (rcompare_c n.y (-n.x) _ (HG.out.ext HX6.out) HN.out.y HN.out.x.neg (by omega) (by omega)).mono ?_; rintro e w7 ⟨rfl, e7⟩
  have HX7 : Hid (Ext w w7) := Lib.hid (HX6.out.trans e7)
  have HB0_7 := Lib.hid (Blk.ext HB0_6.out e7)
  have HB1_7 := Lib.hid (Blk.ext HB1_6.out e7)
  clear e7 c0_0 c0_1
  have c0_0 := HB0_7.out.cell 0 rfl
  have c0_1 := HB0_7.out.cell 1 rfl
  go_wp2_with fail
  refine (ldiv_c n.y (-n.x) _ (HG.out.ext HX7.out) HN.out.y HN.out.x.neg (by omega) (by omega) (by omega) (ne_of_sgn HSNX.out)).mono ?_; rintro e w8 ⟨rfl, e8⟩
  have HX8 : Hid (Ext w w8) := Lib.hid (HX7.out.trans e8)
  have HB1_8 := Lib.hid (Blk.ext HB1_7.out e8)
  clear e8 c0_0 c0_1
  have c1_0 := HB1_8.out.cell 0 rfl
  have f1_0 := HB1_8.out.free 0
  have c1_1 := HB1_8.out.cell 1 rfl
  have f1_1 := HB1_8.out.free 1
  go_wp2_with fail
  refine wp_name (fun W => Ext w W ∧ Blk W (w.heap.size + 1) #[.int .i64 6, .string (qs (n.y / -n.x))] 28) ⟨((HX8.out.setCell (by have := HGEB1.out; first | omega | (simp only []; omega) | (simp; omega)) _).setCell (by have := HGEB1.out; first | omega | (simp only []; omega) | (simp; omega)) _), ((HB1_8.out.set 0 (.int .i64 6)).set 1 (.string (qs (n.y / -n.x))))⟩ ?_
  rintro w9 ⟨e9, bB1_9⟩
  have HX9 := Lib.hid e9; have HB1_9 := Lib.hid bB1_9
  clear e9 bB1_9 c1_0 f1_0 c1_1 f1_1
  have gB1_0 := HB1_9.out.cell 0 rfl
  have gB1_1 := HB1_9.out.cell 1 rfl
  refine bodyPost_ret (v := .agg #[.int .i64 6, .string (qs (n.y / -n.x))]) (by simp [results, Tryz.results16, go_sem, gB1_0, gB1_1]) rfl ⟨rfl, HX9.out⟩

set_option maxRecDepth 100000 in
set_option maxHeartbeats 4000000 in
theorem lcomp_mp_lt (n : P2) (w : World) (g : Gd w) (hn : PB 24 n) (hsx : n.x.num.sign = -1) (hsy : n.y.num.sign = 1) (hc : qcmp n.y (-n.x) < 0) : Calls Tryz.prog 16 #[.agg #[.string (qs n.x), .string (qs n.y)]] w (Ret w (.agg #[.int .i64 6, .string (qs (n.y / -n.x))])) := by
  have HN := Lib.hid hn
  have HSX := Lib.hid hsx
  have HSY := Lib.hid hsy
  have HG := Lib.hid g
  clear hn hsx hsy g
  have HSNX : Hid ((-n.x).num.sign = 1) := Lib.hid (sgn_neg HSX.out (by decide)); have HSNY : Hid ((-n.y).num.sign = -1) := Lib.hid (sgn_neg HSY.out (by decide))
  have hc_d : decide (qcmp n.y (-n.x) < 0) = true := decide_eq_true hc
  clear hc
  go_enter Tryz.func16, Tryz.ntmps16
  go_wp2_with fail
  refine wp_loop_rounds 4 ?_
  rw [rounds_succ]
  go_wp2_with fail
  refine ((HSX.out ▸ rsign_c n.x _)).mono ?_; rintro e _ ⟨rfl, rfl⟩
  go_wp2_with fail
  refine wp_name (fun W => Ext w W ∧ Blk W (w.heap.size) #[.string (qs n.x), .string (qs n.y)] 24 ∧ Blk W (w.heap.size + 1) #[.int .i64 0, .string ⟨#[]⟩] 28) ⟨(((Ext.refl w).alloc _).alloc _), ((Blk.new' (w := _) (cs := #[.string (qs n.x), .string (qs n.y)]) (t := 24) (by first | rfl | (simp only [World.size_alloc]; done) | (simp only [World.size_alloc]; omega) | simp)).alloc _), (Blk.new' (w := _) (cs := #[.int .i64 0, .string ⟨#[]⟩]) (t := 28) (by first | rfl | (simp only [World.size_alloc]; done) | (simp only [World.size_alloc]; omega) | simp))⟩ ?_
  rintro w1 ⟨e1, bB0_1, bB1_1⟩
  have HX1 := Lib.hid e1; have HB0_1 := Lib.hid bB0_1; have HB1_1 := Lib.hid bB1_1
  have HGEB0 : Hid (w.heap.size ≤ w.heap.size) := Lib.hid (by first | omega | (simp only []; omega) | (simp; omega))
  have HGEB1 : Hid (w.heap.size ≤ w.heap.size + 1) := Lib.hid (by first | omega | (simp only []; omega) | (simp; omega))
  clear e1 bB0_1 bB1_1
  refine region_lin_s (X := w) [⟨w.heap.size, #[.string (qs n.x), .string (qs n.y)], #[.string (qs (-n.y)), .string (qs n.x)], 24⟩] [.val (.pointer (some ⟨w.heap.size, 1, none⟩)), .val (.string (qs n.y)), .val (.string (qs (-n.y))), .val (.pointer (some ⟨w.heap.size, 0, none⟩)), .val (.string (qs n.x)), .val (.agg #[.string (qs (-n.y)), .string (qs n.x)]), .st 0] (by kernel_rfl) (by kernel_rfl) (by kernel_rfl) HX1.out.drew (List.forall_mem_cons.2 ⟨⟨HGEB0.out, HB0_1.out.drew⟩, (fun _ h => by cases h)⟩) dis1 ?_ (fun g1 w2 hx_ hk_ hb_ hm_ hne_ => ?_)
  · skip
    refine RnL.cons (fun g1 A_ W_ hs_ => ?_) ?_
    · have q1_ := (hs_.old 1 (by kernel_rfl) : A_.tmps[1]?.getD undef = .pointer (some ⟨w.heap.size, 0, none⟩))
      refine Rn.val fun K_ hK_ => ?_
      go_simp
      exact hK_.out _ (Ext.refl _)
    refine RnL.cons (fun g1 A_ W_ hs_ => ?_) ?_
    · have q41_ := hs_.val 0 rfl rfl rfl
      have cB0_1 := ((hs_.ob 0 rfl (by kernel_rfl))).cell 1 rfl
      refine Rn.val fun K_ hK_ => ?_
      go_simp
      exact hK_.out _ (Ext.refl _)
    refine RnL.cons (fun g1 A_ W_ hs_ => ?_) ?_
    · have q42_ := hs_.val 1 rfl rfl rfl
      refine Rn.val fun K_ hK_ => ?_
      go_simp
      refine (rneg_c n.y _ HN.out.y (by omega)).mono ?_; rintro e W9_ ⟨rfl, e9_⟩; exact hK_.out _ e9_
    refine RnL.cons (fun g1 A_ W_ hs_ => ?_) ?_
    · have q1_ := (hs_.old 1 (by kernel_rfl) : A_.tmps[1]?.getD undef = .pointer (some ⟨w.heap.size, 0, none⟩))
      refine Rn.val fun K_ hK_ => ?_
      go_simp
      exact hK_.out _ (Ext.refl _)
    refine RnL.cons (fun g1 A_ W_ hs_ => ?_) ?_
    · have q44_ := hs_.val 3 rfl rfl rfl
      have cB0_0 := ((hs_.ob 0 rfl (by kernel_rfl))).cell 0 rfl
      refine Rn.val fun K_ hK_ => ?_
      go_simp
      exact hK_.out _ (Ext.refl _)
    refine RnL.cons (fun g1 A_ W_ hs_ => ?_) ?_
    · have q43_ := hs_.val 2 rfl rfl rfl
      have q45_ := hs_.val 4 rfl rfl rfl
      refine Rn.val fun K_ hK_ => ?_
      go_simp
      exact hK_.out _ (Ext.refl _)
    refine RnL.cons (fun g1 A_ W_ hs_ => ?_) ?_
    · have q1_ := (hs_.old 1 (by kernel_rfl) : A_.tmps[1]?.getD undef = .pointer (some ⟨w.heap.size, 0, none⟩))
      have q46_ := hs_.val 5 rfl rfl rfl
      refine Rn.st (n := 0) rfl fun hB0 K_ hK_ => ?_
      have hB : Blk W_ (w.heap.size) #[.string (qs n.x), .string (qs n.y)] 24 := hB0; clear hB0
      have c_0 := hB.cell 0 rfl; have f_0 := hB.free 0
      have c_1 := hB.cell 1 rfl; have f_1 := hB.free 1
      have HB := Lib.hid hB; clear hB
      go_simp
      exact hK_.out _ (((Only.refl _ _).set 0 _).set 1 _) ((HB.out.set 0 _).set 1 _)
    exact RnL.nil
  simp only [fs, Kd.value, puts, Act.put, List.setIfInBounds_toArray, List.set_cons_zero, List.set_cons_succ]
  have HX2 : Hid (Ext w w2) := Lib.hid hx_
  have HB0_2 : Hid (Blk w2 (w.heap.size) #[.string (qs (-n.y)), .string (qs n.x)] 24) := Lib.hid (hb_ 0 _ rfl)
  have HB1_2 : Hid (Blk w2 (w.heap.size + 1) #[.int .i64 0, .string ⟨#[]⟩] 28) := Lib.hid (hk_ _ _ _ (fm2 (show w.heap.size ≠ w.heap.size + 1 from by first | omega | (simp only []; omega) | (simp; omega)) fm0) HB1_1.out.drew)
  clear hx_ hm_ hne_ hk_ hb_
  go_wp2_with fail
  rw [rounds_succ]
  have c0_0 := HB0_2.out.cell 0 rfl
  go_wp2_with fail
  refine ((HSNY.out ▸ rsign_c (-n.y) _)).mono ?_; rintro e _ ⟨rfl, rfl⟩
  clear c0_0
  go_wp2_with fail
  refine wp_name (fun W => Ext w W ∧ Blk W (w.heap.size) #[.string (qs (-n.y)), .string (qs n.x)] 24 ∧ Blk W (w.heap.size + 1) #[.int .i64 0, .string ⟨#[]⟩] 28) ⟨HX2.out, HB0_2.out, HB1_2.out⟩ ?_
  rintro w3 ⟨e3, bB0_3, bB1_3⟩
  have HX3 := Lib.hid e3; have HB0_3 := Lib.hid bB0_3; have HB1_3 := Lib.hid bB1_3
  clear e3 bB0_3 bB1_3
  refine region_lin_s (X := w) [⟨w.heap.size, #[.string (qs (-n.y)), .string (qs n.x)], #[.string (qs (-n.x)), .string (qs (-n.y))], 24⟩] [.val (.pointer (some ⟨w.heap.size, 1, none⟩)), .val (.string (qs n.x)), .val (.string (qs (-n.x))), .val (.pointer (some ⟨w.heap.size, 0, none⟩)), .val (.string (qs (-n.y))), .val (.agg #[.string (qs (-n.x)), .string (qs (-n.y))]), .st 0] (by kernel_rfl) (by kernel_rfl) (by kernel_rfl) HX3.out.drew (List.forall_mem_cons.2 ⟨⟨HGEB0.out, HB0_3.out.drew⟩, (fun _ h => by cases h)⟩) dis1 ?_ (fun g3 w4 hx_ hk_ hb_ hm_ hne_ => ?_)
  · skip
    refine RnL.cons (fun g3 A_ W_ hs_ => ?_) ?_
    · have q1_ := (hs_.old 1 (by kernel_rfl) : A_.tmps[1]?.getD undef = .pointer (some ⟨w.heap.size, 0, none⟩))
      refine Rn.val fun K_ hK_ => ?_
      go_simp
      exact hK_.out _ (Ext.refl _)
    refine RnL.cons (fun g3 A_ W_ hs_ => ?_) ?_
    · have q41_ := hs_.val 0 rfl rfl rfl
      have cB0_1 := ((hs_.ob 0 rfl (by kernel_rfl))).cell 1 rfl
      refine Rn.val fun K_ hK_ => ?_
      go_simp
      exact hK_.out _ (Ext.refl _)
    refine RnL.cons (fun g3 A_ W_ hs_ => ?_) ?_
    · have q42_ := hs_.val 1 rfl rfl rfl
      refine Rn.val fun K_ hK_ => ?_
      go_simp
      refine (rneg_c n.x _ HN.out.x (by omega)).mono ?_; rintro e W9_ ⟨rfl, e9_⟩; exact hK_.out _ e9_
    refine RnL.cons (fun g3 A_ W_ hs_ => ?_) ?_
    · have q1_ := (hs_.old 1 (by kernel_rfl) : A_.tmps[1]?.getD undef = .pointer (some ⟨w.heap.size, 0, none⟩))
      refine Rn.val fun K_ hK_ => ?_
      go_simp
      exact hK_.out _ (Ext.refl _)
    refine RnL.cons (fun g3 A_ W_ hs_ => ?_) ?_
    · have q44_ := hs_.val 3 rfl rfl rfl
      have cB0_0 := ((hs_.ob 0 rfl (by kernel_rfl))).cell 0 rfl
      refine Rn.val fun K_ hK_ => ?_
      go_simp
      exact hK_.out _ (Ext.refl _)
    refine RnL.cons (fun g3 A_ W_ hs_ => ?_) ?_
    · have q43_ := hs_.val 2 rfl rfl rfl
      have q45_ := hs_.val 4 rfl rfl rfl
      refine Rn.val fun K_ hK_ => ?_
      go_simp
      exact hK_.out _ (Ext.refl _)
    refine RnL.cons (fun g3 A_ W_ hs_ => ?_) ?_
    · have q1_ := (hs_.old 1 (by kernel_rfl) : A_.tmps[1]?.getD undef = .pointer (some ⟨w.heap.size, 0, none⟩))
      have q46_ := hs_.val 5 rfl rfl rfl
      refine Rn.st (n := 0) rfl fun hB0 K_ hK_ => ?_
      have hB : Blk W_ (w.heap.size) #[.string (qs (-n.y)), .string (qs n.x)] 24 := hB0; clear hB0
      have c_0 := hB.cell 0 rfl; have f_0 := hB.free 0
      have c_1 := hB.cell 1 rfl; have f_1 := hB.free 1
      have HB := Lib.hid hB; clear hB
      go_simp
      exact hK_.out _ (((Only.refl _ _).set 0 _).set 1 _) ((HB.out.set 0 _).set 1 _)
    exact RnL.nil
  simp only [fs, Kd.value, puts, Act.put, List.setIfInBounds_toArray, List.set_cons_zero, List.set_cons_succ]
  have HX4 : Hid (Ext w w4) := Lib.hid hx_
  have HB0_4 : Hid (Blk w4 (w.heap.size) #[.string (qs (-n.x)), .string (qs (-n.y))] 24) := Lib.hid (hb_ 0 _ rfl)
  have HB1_4 : Hid (Blk w4 (w.heap.size + 1) #[.int .i64 0, .string ⟨#[]⟩] 28) := Lib.hid (hk_ _ _ _ (fm2 (show w.heap.size ≠ w.heap.size + 1 from by first | omega | (simp only []; omega) | (simp; omega)) fm0) HB1_3.out.drew)
  clear hx_ hm_ hne_ hk_ hb_
  go_wp2_with fail
  rw [rounds_succ]
  have c0_0 := HB0_4.out.cell 0 rfl
  go_wp2_with fail
  refine ((HSNX.out ▸ rsign_c (-n.x) _)).mono ?_; rintro e _ ⟨rfl, rfl⟩
  clear c0_0
  have c0_1 := HB0_4.out.cell 1 rfl
  go_wp2_with fail
  refine ((HSNY.out ▸ rsign_c (-n.y) _)).mono ?_; rintro e _ ⟨rfl, rfl⟩
  clear c0_1
  go_wp2_with fail
  refine wp_name (fun W => Ext w W ∧ Blk W (w.heap.size) #[.string (qs (-n.x)), .string (qs (-n.y))] 24 ∧ Blk W (w.heap.size + 1) #[.int .i64 0, .string ⟨#[]⟩] 28) ⟨HX4.out, HB0_4.out, HB1_4.out⟩ ?_
  rintro w5 ⟨e5, bB0_5, bB1_5⟩
  have HX5 := Lib.hid e5; have HB0_5 := Lib.hid bB0_5; have HB1_5 := Lib.hid bB1_5
  clear e5 bB0_5 bB1_5
  refine region_lin_s (X := w) [⟨w.heap.size, #[.string (qs (-n.x)), .string (qs (-n.y))], #[.string (qs n.y), .string (qs (-n.x))], 24⟩] [.val (.pointer (some ⟨w.heap.size, 1, none⟩)), .val (.string (qs (-n.y))), .val (.string (qs n.y)), .val (.pointer (some ⟨w.heap.size, 0, none⟩)), .val (.string (qs (-n.x))), .val (.agg #[.string (qs n.y), .string (qs (-n.x))]), .st 0] (by kernel_rfl) (by kernel_rfl) (by kernel_rfl) HX5.out.drew (List.forall_mem_cons.2 ⟨⟨HGEB0.out, HB0_5.out.drew⟩, (fun _ h => by cases h)⟩) dis1 ?_ (fun g5 w6 hx_ hk_ hb_ hm_ hne_ => ?_)
  · skip
    refine RnL.cons (fun g5 A_ W_ hs_ => ?_) ?_
    · have q1_ := (hs_.old 1 (by kernel_rfl) : A_.tmps[1]?.getD undef = .pointer (some ⟨w.heap.size, 0, none⟩))
      refine Rn.val fun K_ hK_ => ?_
      go_simp
      exact hK_.out _ (Ext.refl _)
    refine RnL.cons (fun g5 A_ W_ hs_ => ?_) ?_
    · have q41_ := hs_.val 0 rfl rfl rfl
      have cB0_1 := ((hs_.ob 0 rfl (by kernel_rfl))).cell 1 rfl
      refine Rn.val fun K_ hK_ => ?_
      go_simp
      exact hK_.out _ (Ext.refl _)
    refine RnL.cons (fun g5 A_ W_ hs_ => ?_) ?_
    · have q42_ := hs_.val 1 rfl rfl rfl
      refine Rn.val fun K_ hK_ => ?_
      go_simp
      refine (rneg_neg n.y _ HN.out.y (by decide)).mono ?_; rintro e W9_ ⟨rfl, e9_⟩; exact hK_.out _ e9_
    refine RnL.cons (fun g5 A_ W_ hs_ => ?_) ?_
    · have q1_ := (hs_.old 1 (by kernel_rfl) : A_.tmps[1]?.getD undef = .pointer (some ⟨w.heap.size, 0, none⟩))
      refine Rn.val fun K_ hK_ => ?_
      go_simp
      exact hK_.out _ (Ext.refl _)
    refine RnL.cons (fun g5 A_ W_ hs_ => ?_) ?_
    · have q44_ := hs_.val 3 rfl rfl rfl
      have cB0_0 := ((hs_.ob 0 rfl (by kernel_rfl))).cell 0 rfl
      refine Rn.val fun K_ hK_ => ?_
      go_simp
      exact hK_.out _ (Ext.refl _)
    refine RnL.cons (fun g5 A_ W_ hs_ => ?_) ?_
    · have q43_ := hs_.val 2 rfl rfl rfl
      have q45_ := hs_.val 4 rfl rfl rfl
      refine Rn.val fun K_ hK_ => ?_
      go_simp
      exact hK_.out _ (Ext.refl _)
    refine RnL.cons (fun g5 A_ W_ hs_ => ?_) ?_
    · have q1_ := (hs_.old 1 (by kernel_rfl) : A_.tmps[1]?.getD undef = .pointer (some ⟨w.heap.size, 0, none⟩))
      have q46_ := hs_.val 5 rfl rfl rfl
      refine Rn.st (n := 0) rfl fun hB0 K_ hK_ => ?_
      have hB : Blk W_ (w.heap.size) #[.string (qs (-n.x)), .string (qs (-n.y))] 24 := hB0; clear hB0
      have c_0 := hB.cell 0 rfl; have f_0 := hB.free 0
      have c_1 := hB.cell 1 rfl; have f_1 := hB.free 1
      have HB := Lib.hid hB; clear hB
      go_simp
      exact hK_.out _ (((Only.refl _ _).set 0 _).set 1 _) ((HB.out.set 0 _).set 1 _)
    exact RnL.nil
  simp only [fs, Kd.value, puts, Act.put, List.setIfInBounds_toArray, List.set_cons_zero, List.set_cons_succ]
  have HX6 : Hid (Ext w w6) := Lib.hid hx_
  have HB0_6 : Hid (Blk w6 (w.heap.size) #[.string (qs n.y), .string (qs (-n.x))] 24) := Lib.hid (hb_ 0 _ rfl)
  have HB1_6 : Hid (Blk w6 (w.heap.size + 1) #[.int .i64 0, .string ⟨#[]⟩] 28) := Lib.hid (hk_ _ _ _ (fm2 (show w.heap.size ≠ w.heap.size + 1 from by first | omega | (simp only []; omega) | (simp; omega)) fm0) HB1_5.out.drew)
  clear hx_ hm_ hne_ hk_ hb_
  go_wp2_with fail
  rw [rounds_succ]
  have c0_0 := HB0_6.out.cell 0 rfl
  go_wp2_with fail
  refine ((HSY.out ▸ rsign_c n.y _)).mono ?_; rintro e _ ⟨rfl, rfl⟩
  clear c0_0
  have c0_1 := HB0_6.out.cell 1 rfl
  go_wp2_with fail
  refine ((HSNX.out ▸ rsign_c (-n.x) _)).mono ?_; rintro e _ ⟨rfl, rfl⟩
  clear c0_1
  have c0_0 := HB0_6.out.cell 0 rfl
  have c0_1 := HB0_6.out.cell 1 rfl
  go_wp2_with fail
  refine (rcompare_c n.y (-n.x) _ (HG.out.ext HX6.out) HN.out.y HN.out.x.neg (by omega) (by omega)).mono ?_; rintro e w7 ⟨rfl, e7⟩
  have HX7 : Hid (Ext w w7) := Lib.hid (HX6.out.trans e7)
  have HB0_7 := Lib.hid (Blk.ext HB0_6.out e7)
  have HB1_7 := Lib.hid (Blk.ext HB1_6.out e7)
  clear e7 c0_0 c0_1
  have c0_0 := HB0_7.out.cell 0 rfl
  have c0_1 := HB0_7.out.cell 1 rfl
  go_wp2_with fail
  refine (ldiv_c n.y (-n.x) _ (HG.out.ext HX7.out) HN.out.y HN.out.x.neg (by omega) (by omega) (by omega) (ne_of_sgn HSNX.out)).mono ?_; rintro e w8 ⟨rfl, e8⟩
  have HX8 : Hid (Ext w w8) := Lib.hid (HX7.out.trans e8)
  have HB1_8 := Lib.hid (Blk.ext HB1_7.out e8)
  clear e8 c0_0 c0_1
  have c1_0 := HB1_8.out.cell 0 rfl
  have f1_0 := HB1_8.out.free 0
  have c1_1 := HB1_8.out.cell 1 rfl
  have f1_1 := HB1_8.out.free 1
  go_wp2_with fail
  refine wp_name (fun W => Ext w W ∧ Blk W (w.heap.size + 1) #[.int .i64 6, .string (qs (n.y / -n.x))] 28) ⟨((HX8.out.setCell (by have := HGEB1.out; first | omega | (simp only []; omega) | (simp; omega)) _).setCell (by have := HGEB1.out; first | omega | (simp only []; omega) | (simp; omega)) _), ((HB1_8.out.set 0 (.int .i64 6)).set 1 (.string (qs (n.y / -n.x))))⟩ ?_
  rintro w9 ⟨e9, bB1_9⟩
  have HX9 := Lib.hid e9; have HB1_9 := Lib.hid bB1_9
  clear e9 bB1_9 c1_0 f1_0 c1_1 f1_1
  have gB1_0 := HB1_9.out.cell 0 rfl
  have gB1_1 := HB1_9.out.cell 1 rfl
  refine bodyPost_ret (v := .agg #[.int .i64 6, .string (qs (n.y / -n.x))]) (by simp [results, Tryz.results16, go_sem, gB1_0, gB1_1]) rfl ⟨rfl, HX9.out⟩

set_option maxRecDepth 100000 in
set_option maxHeartbeats 4000000 in
theorem lcomp_mp_ge (n : P2) (w : World) (g : Gd w) (hn : PB 24 n) (hsx : n.x.num.sign = -1) (hsy : n.y.num.sign = 1) (hc : ¬ qcmp n.y (-n.x) < 0) : Calls Tryz.prog 16 #[.agg #[.string (qs n.x), .string (qs n.y)]] w (Ret w (.agg #[.int .i64 7, .string (qs (-n.x / n.y))])) := by
  have HN := Lib.hid hn
  have HSX := Lib.hid hsx
  have HSY := Lib.hid hsy
  have HG := Lib.hid g
  clear hn hsx hsy g
  have HSNX : Hid ((-n.x).num.sign = 1) := Lib.hid (sgn_neg HSX.out (by decide)); have HSNY : Hid ((-n.y).num.sign = -1) := Lib.hid (sgn_neg HSY.out (by decide))
  have hc_d : decide (qcmp n.y (-n.x) < 0) = false := decide_eq_false hc
  clear hc
  go_enter Tryz.func16, Tryz.ntmps16
  go_wp2_with fail
  refine wp_loop_rounds 4 ?_
  rw [rounds_succ]
  go_wp2_with fail
  refine ((HSX.out ▸ rsign_c n.x _)).mono ?_; rintro e _ ⟨rfl, rfl⟩
  go_wp2_with fail
  refine wp_name (fun W => Ext w W ∧ Blk W (w.heap.size) #[.string (qs n.x), .string (qs n.y)] 24 ∧ Blk W (w.heap.size + 1) #[.int .i64 0, .string ⟨#[]⟩] 28) ⟨(((Ext.refl w).alloc _).alloc _), ((Blk.new' (w := _) (cs := #[.string (qs n.x), .string (qs n.y)]) (t := 24) (by first | rfl | (simp only [World.size_alloc]; done) | (simp only [World.size_alloc]; omega) | simp)).alloc _), (Blk.new' (w := _) (cs := #[.int .i64 0, .string ⟨#[]⟩]) (t := 28) (by first | rfl | (simp only [World.size_alloc]; done) | (simp only [World.size_alloc]; omega) | simp))⟩ ?_
  rintro w1 ⟨e1, bB0_1, bB1_1⟩
  have HX1 := Lib.hid e1; have HB0_1 := Lib.hid bB0_1; have HB1_1 := Lib.hid bB1_1
  have HGEB0 : Hid (w.heap.size ≤ w.heap.size) := Lib.hid (by first | omega | (simp only []; omega) | (simp; omega))
  have HGEB1 : Hid (w.heap.size ≤ w.heap.size + 1) := Lib.hid (by first | omega | (simp only []; omega) | (simp; omega))
  clear e1 bB0_1 bB1_1
  refine region_lin_s (X := w) [⟨w.heap.size, #[.string (qs n.x), .string (qs n.y)], #[.string (qs (-n.y)), .string (qs n.x)], 24⟩] [.val (.pointer (some ⟨w.heap.size, 1, none⟩)), .val (.string (qs n.y)), .val (.string (qs (-n.y))), .val (.pointer (some ⟨w.heap.size, 0, none⟩)), .val (.string (qs n.x)), .val (.agg #[.string (qs (-n.y)), .string (qs n.x)]), .st 0] (by kernel_rfl) (by kernel_rfl) (by kernel_rfl) HX1.out.drew (List.forall_mem_cons.2 ⟨⟨HGEB0.out, HB0_1.out.drew⟩, (fun _ h => by cases h)⟩) dis1 ?_ (fun g1 w2 hx_ hk_ hb_ hm_ hne_ => ?_)
  · skip
    refine RnL.cons (fun g1 A_ W_ hs_ => ?_) ?_
    · have q1_ := (hs_.old 1 (by kernel_rfl) : A_.tmps[1]?.getD undef = .pointer (some ⟨w.heap.size, 0, none⟩))
      refine Rn.val fun K_ hK_ => ?_
      go_simp
      exact hK_.out _ (Ext.refl _)
    refine RnL.cons (fun g1 A_ W_ hs_ => ?_) ?_
    · have q41_ := hs_.val 0 rfl rfl rfl
      have cB0_1 := ((hs_.ob 0 rfl (by kernel_rfl))).cell 1 rfl
      refine Rn.val fun K_ hK_ => ?_
      go_simp
      exact hK_.out _ (Ext.refl _)
    refine RnL.cons (fun g1 A_ W_ hs_ => ?_) ?_
    · have q42_ := hs_.val 1 rfl rfl rfl
      refine Rn.val fun K_ hK_ => ?_
      go_simp
      refine (rneg_c n.y _ HN.out.y (by omega)).mono ?_; rintro e W9_ ⟨rfl, e9_⟩; exact hK_.out _ e9_
    refine RnL.cons (fun g1 A_ W_ hs_ => ?_) ?_
    · have q1_ := (hs_.old 1 (by kernel_rfl) : A_.tmps[1]?.getD undef = .pointer (some ⟨w.heap.size, 0, none⟩))
      refine Rn.val fun K_ hK_ => ?_
      go_simp
      exact hK_.out _ (Ext.refl _)
    refine RnL.cons (fun g1 A_ W_ hs_ => ?_) ?_
    · have q44_ := hs_.val 3 rfl rfl rfl
      have cB0_0 := ((hs_.ob 0 rfl (by kernel_rfl))).cell 0 rfl
      refine Rn.val fun K_ hK_ => ?_
      go_simp
      exact hK_.out _ (Ext.refl _)
    refine RnL.cons (fun g1 A_ W_ hs_ => ?_) ?_
    · have q43_ := hs_.val 2 rfl rfl rfl
      have q45_ := hs_.val 4 rfl rfl rfl
      refine Rn.val fun K_ hK_ => ?_
      go_simp
      exact hK_.out _ (Ext.refl _)
    refine RnL.cons (fun g1 A_ W_ hs_ => ?_) ?_
    · have q1_ := (hs_.old 1 (by kernel_rfl) : A_.tmps[1]?.getD undef = .pointer (some ⟨w.heap.size, 0, none⟩))
      have q46_ := hs_.val 5 rfl rfl rfl
      refine Rn.st (n := 0) rfl fun hB0 K_ hK_ => ?_
      have hB : Blk W_ (w.heap.size) #[.string (qs n.x), .string (qs n.y)] 24 := hB0; clear hB0
      have c_0 := hB.cell 0 rfl; have f_0 := hB.free 0
      have c_1 := hB.cell 1 rfl; have f_1 := hB.free 1
      have HB := Lib.hid hB; clear hB
      go_simp
      exact hK_.out _ (((Only.refl _ _).set 0 _).set 1 _) ((HB.out.set 0 _).set 1 _)
    exact RnL.nil
  simp only [fs, Kd.value, puts, Act.put, List.setIfInBounds_toArray, List.set_cons_zero, List.set_cons_succ]
  have HX2 : Hid (Ext w w2) := Lib.hid hx_
  have HB0_2 : Hid (Blk w2 (w.heap.size) #[.string (qs (-n.y)), .string (qs n.x)] 24) := Lib.hid (hb_ 0 _ rfl)
  have HB1_2 : Hid (Blk w2 (w.heap.size + 1) #[.int .i64 0, .string ⟨#[]⟩] 28) := Lib.hid (hk_ _ _ _ (fm2 (show w.heap.size ≠ w.heap.size + 1 from by first | omega | (simp only []; omega) | (simp; omega)) fm0) HB1_1.out.drew)
  clear hx_ hm_ hne_ hk_ hb_
  go_wp2_with fail
  rw [rounds_succ]
  have c0_0 := HB0_2.out.cell 0 rfl
  go_wp2_with fail
  refine ((HSNY.out ▸ rsign_c (-n.y) _)).mono ?_; rintro e _ ⟨rfl, rfl⟩
  clear c0_0
  go_wp2_with fail
  refine wp_name (fun W => Ext w W ∧ Blk W (w.heap.size) #[.string (qs (-n.y)), .string (qs n.x)] 24 ∧ Blk W (w.heap.size + 1) #[.int .i64 0, .string ⟨#[]⟩] 28) ⟨HX2.out, HB0_2.out, HB1_2.out⟩ ?_
  rintro w3 ⟨e3, bB0_3, bB1_3⟩
  have HX3 := Lib.hid e3; have HB0_3 := Lib.hid bB0_3; have HB1_3 := Lib.hid bB1_3
  clear e3 bB0_3 bB1_3
  refine region_lin_s (X := w) [⟨w.heap.size, #[.string (qs (-n.y)), .string (qs n.x)], #[.string (qs (-n.x)), .string (qs (-n.y))], 24⟩] [.val (.pointer (some ⟨w.heap.size, 1, none⟩)), .val (.string (qs n.x)), .val (.string (qs (-n.x))), .val (.pointer (some ⟨w.heap.size, 0, none⟩)), .val (.string (qs (-n.y))), .val (.agg #[.string (qs (-n.x)), .string (qs (-n.y))]), .st 0] (by kernel_rfl) (by kernel_rfl) (by kernel_rfl) HX3.out.drew (List.forall_mem_cons.2 ⟨⟨HGEB0.out, HB0_3.out.drew⟩, (fun _ h => by cases h)⟩) dis1 ?_ (fun g3 w4 hx_ hk_ hb_ hm_ hne_ => ?_)
  · skip
    refine RnL.cons (fun g3 A_ W_ hs_ => ?_) ?_
    · have q1_ := (hs_.old 1 (by kernel_rfl) : A_.tmps[1]?.getD undef = .pointer (some ⟨w.heap.size, 0, none⟩))
      refine Rn.val fun K_ hK_ => ?_
      go_simp
      exact hK_.out _ (Ext.refl _)
    refine RnL.cons (fun g3 A_ W_ hs_ => ?_) ?_
    · have q41_ := hs_.val 0 rfl rfl rfl
      have cB0_1 := ((hs_.ob 0 rfl (by kernel_rfl))).cell 1 rfl
      refine Rn.val fun K_ hK_ => ?_
      go_simp
      exact hK_.out _ (Ext.refl _)
    refine RnL.cons (fun g3 A_ W_ hs_ => ?_) ?_
    · have q42_ := hs_.val 1 rfl rfl rfl
      refine Rn.val fun K_ hK_ => ?_
      go_simp
      refine (rneg_c n.x _ HN.out.x (by omega)).mono ?_; rintro e W9_ ⟨rfl, e9_⟩; exact hK_.out _ e9_
    refine RnL.cons (fun g3 A_ W_ hs_ => ?_) ?_
    · have q1_ := (hs_.old 1 (by kernel_rfl) : A_.tmps[1]?.getD undef = .pointer (some ⟨w.heap.size, 0, none⟩))
      refine Rn.val fun K_ hK_ => ?_
      go_simp
      exact hK_.out _ (Ext.refl _)
    refine RnL.cons (fun g3 A_ W_ hs_ => ?_) ?_
    · have q44_ := hs_.val 3 rfl rfl rfl
      have cB0_0 := ((hs_.ob 0 rfl (by kernel_rfl))).cell 0 rfl
      refine Rn.val fun K_ hK_ => ?_
      go_simp
      exact hK_.out _ (Ext.refl _)
    refine RnL.cons (fun g3 A_ W_ hs_ => ?_) ?_
    · have q43_ := hs_.val 2 rfl rfl rfl
      have q45_ := hs_.val 4 rfl rfl rfl
      refine Rn.val fun K_ hK_ => ?_
      go_simp
      exact hK_.out _ (Ext.refl _)
    refine RnL.cons (fun g3 A_ W_ hs_ => ?_) ?_
    · have q1_ := (hs_.old 1 (by kernel_rfl) : A_.tmps[1]?.getD undef = .pointer (some ⟨w.heap.size, 0, none⟩))
      have q46_ := hs_.val 5 rfl rfl rfl
      refine Rn.st (n := 0) rfl fun hB0 K_ hK_ => ?_
      have hB : Blk W_ (w.heap.size) #[.string (qs (-n.y)), .string (qs n.x)] 24 := hB0; clear hB0
      have c_0 := hB.cell 0 rfl; have f_0 := hB.free 0
      have c_1 := hB.cell 1 rfl; have f_1 := hB.free 1
      have HB := Lib.hid hB; clear hB
      go_simp
      exact hK_.out _ (((Only.refl _ _).set 0 _).set 1 _) ((HB.out.set 0 _).set 1 _)
    exact RnL.nil
  simp only [fs, Kd.value, puts, Act.put, List.setIfInBounds_toArray, List.set_cons_zero, List.set_cons_succ]
  have HX4 : Hid (Ext w w4) := Lib.hid hx_
  have HB0_4 : Hid (Blk w4 (w.heap.size) #[.string (qs (-n.x)), .string (qs (-n.y))] 24) := Lib.hid (hb_ 0 _ rfl)
  have HB1_4 : Hid (Blk w4 (w.heap.size + 1) #[.int .i64 0, .string ⟨#[]⟩] 28) := Lib.hid (hk_ _ _ _ (fm2 (show w.heap.size ≠ w.heap.size + 1 from by first | omega | (simp only []; omega) | (simp; omega)) fm0) HB1_3.out.drew)
  clear hx_ hm_ hne_ hk_ hb_
  go_wp2_with fail
  rw [rounds_succ]
  have c0_0 := HB0_4.out.cell 0 rfl
  go_wp2_with fail
  refine ((HSNX.out ▸ rsign_c (-n.x) _)).mono ?_; rintro e _ ⟨rfl, rfl⟩
  clear c0_0
  have c0_1 := HB0_4.out.cell 1 rfl
  go_wp2_with fail
  refine ((HSNY.out ▸ rsign_c (-n.y) _)).mono ?_; rintro e _ ⟨rfl, rfl⟩
  clear c0_1
  go_wp2_with fail
  refine wp_name (fun W => Ext w W ∧ Blk W (w.heap.size) #[.string (qs (-n.x)), .string (qs (-n.y))] 24 ∧ Blk W (w.heap.size + 1) #[.int .i64 0, .string ⟨#[]⟩] 28) ⟨HX4.out, HB0_4.out, HB1_4.out⟩ ?_
  rintro w5 ⟨e5, bB0_5, bB1_5⟩
  have HX5 := Lib.hid e5; have HB0_5 := Lib.hid bB0_5; have HB1_5 := Lib.hid bB1_5
  clear e5 bB0_5 bB1_5
  refine region_lin_s (X := w) [⟨w.heap.size, #[.string (qs (-n.x)), .string (qs (-n.y))], #[.string (qs n.y), .string (qs (-n.x))], 24⟩] [.val (.pointer (some ⟨w.heap.size, 1, none⟩)), .val (.string (qs (-n.y))), .val (.string (qs n.y)), .val (.pointer (some ⟨w.heap.size, 0, none⟩)), .val (.string (qs (-n.x))), .val (.agg #[.string (qs n.y), .string (qs (-n.x))]), .st 0] (by kernel_rfl) (by kernel_rfl) (by kernel_rfl) HX5.out.drew (List.forall_mem_cons.2 ⟨⟨HGEB0.out, HB0_5.out.drew⟩, (fun _ h => by cases h)⟩) dis1 ?_ (fun g5 w6 hx_ hk_ hb_ hm_ hne_ => ?_)
  · skip
    refine RnL.cons (fun g5 A_ W_ hs_ => ?_) ?_
    · have q1_ := (hs_.old 1 (by kernel_rfl) : A_.tmps[1]?.getD undef = .pointer (some ⟨w.heap.size, 0, none⟩))
      refine Rn.val fun K_ hK_ => ?_
      go_simp
      exact hK_.out _ (Ext.refl _)
    refine RnL.cons (fun g5 A_ W_ hs_ => ?_) ?_
    · have q41_ := hs_.val 0 rfl rfl rfl
      have cB0_1 := ((hs_.ob 0 rfl (by kernel_rfl))).cell 1 rfl
      refine Rn.val fun K_ hK_ => ?_
      go_simp
      exact hK_.out _ (Ext.refl _)
    refine RnL.cons (fun g5 A_ W_ hs_ => ?_) ?_
    · have q42_ := hs_.val 1 rfl rfl rfl
      refine Rn.val fun K_ hK_ => ?_
      go_simp
      refine (rneg_neg n.y _ HN.out.y (by decide)).mono ?_; rintro e W9_ ⟨rfl, e9_⟩; exact hK_.out _ e9_
    refine RnL.cons (fun g5 A_ W_ hs_ => ?_) ?_
    · have q1_ := (hs_.old 1 (by kernel_rfl) : A_.tmps[1]?.getD undef = .pointer (some ⟨w.heap.size, 0, none⟩))
      refine Rn.val fun K_ hK_ => ?_
      go_simp
      exact hK_.out _ (Ext.refl _)
    refine RnL.cons (fun g5 A_ W_ hs_ => ?_) ?_
    · have q44_ := hs_.val 3 rfl rfl rfl
      have cB0_0 := ((hs_.ob 0 rfl (by kernel_rfl))).cell 0 rfl
      refine Rn.val fun K_ hK_ => ?_
      go_simp
      exact hK_.out _ (Ext.refl _)
    refine RnL.cons (fun g5 A_ W_ hs_ => ?_) ?_
    · have q43_ := hs_.val 2 rfl rfl rfl
      have q45_ := hs_.val 4 rfl rfl rfl
      refine Rn.val fun K_ hK_ => ?_
      go_simp
      exact hK_.out _ (Ext.refl _)
    refine RnL.cons (fun g5 A_ W_ hs_ => ?_) ?_
    · have q1_ := (hs_.old 1 (by kernel_rfl) : A_.tmps[1]?.getD undef = .pointer (some ⟨w.heap.size, 0, none⟩))
      have q46_ := hs_.val 5 rfl rfl rfl
      refine Rn.st (n := 0) rfl fun hB0 K_ hK_ => ?_
      have hB : Blk W_ (w.heap.size) #[.string (qs (-n.x)), .string (qs (-n.y))] 24 := hB0; clear hB0
      have c_0 := hB.cell 0 rfl; have f_0 := hB.free 0
      have c_1 := hB.cell 1 rfl; have f_1 := hB.free 1
      have HB := Lib.hid hB; clear hB
      go_simp
      exact hK_.out _ (((Only.refl _ _).set 0 _).set 1 _) ((HB.out.set 0 _).set 1 _)
    exact RnL.nil
  simp only [fs, Kd.value, puts, Act.put, List.setIfInBounds_toArray, List.set_cons_zero, List.set_cons_succ]
  have HX6 : Hid (Ext w w6) := Lib.hid hx_
  have HB0_6 : Hid (Blk w6 (w.heap.size) #[.string (qs n.y), .string (qs (-n.x))] 24) := Lib.hid (hb_ 0 _ rfl)
  have HB1_6 : Hid (Blk w6 (w.heap.size + 1) #[.int .i64 0, .string ⟨#[]⟩] 28) := Lib.hid (hk_ _ _ _ (fm2 (show w.heap.size ≠ w.heap.size + 1 from by first | omega | (simp only []; omega) | (simp; omega)) fm0) HB1_5.out.drew)
  clear hx_ hm_ hne_ hk_ hb_
  go_wp2_with fail
  rw [rounds_succ]
  have c0_0 := HB0_6.out.cell 0 rfl
  go_wp2_with fail
  refine ((HSY.out ▸ rsign_c n.y _)).mono ?_; rintro e _ ⟨rfl, rfl⟩
  clear c0_0
  have c0_1 := HB0_6.out.cell 1 rfl
  go_wp2_with fail
  refine ((HSNX.out ▸ rsign_c (-n.x) _)).mono ?_; rintro e _ ⟨rfl, rfl⟩
  clear c0_1
  have c0_0 := HB0_6.out.cell 0 rfl
  have c0_1 := HB0_6.out.cell 1 rfl
  go_wp2_with fail
  refine (rcompare_c n.y (-n.x) _ (HG.out.ext HX6.out) HN.out.y HN.out.x.neg (by omega) (by omega)).mono ?_; rintro e w7 ⟨rfl, e7⟩
  have HX7 : Hid (Ext w w7) := Lib.hid (HX6.out.trans e7)
  have HB0_7 := Lib.hid (Blk.ext HB0_6.out e7)
  have HB1_7 := Lib.hid (Blk.ext HB1_6.out e7)
  clear e7 c0_0 c0_1
  have c0_1 := HB0_7.out.cell 1 rfl
  have c0_0 := HB0_7.out.cell 0 rfl
  go_wp2_with fail
  refine (ldiv_c (-n.x) n.y _ (HG.out.ext HX7.out) HN.out.x.neg HN.out.y (by omega) (by omega) (by omega) (ne_of_sgn HSY.out)).mono ?_; rintro e w8 ⟨rfl, e8⟩
  have HX8 : Hid (Ext w w8) := Lib.hid (HX7.out.trans e8)
  have HB1_8 := Lib.hid (Blk.ext HB1_7.out e8)
  clear e8 c0_1 c0_0
  have c1_0 := HB1_8.out.cell 0 rfl
  have f1_0 := HB1_8.out.free 0
  have c1_1 := HB1_8.out.cell 1 rfl
  have f1_1 := HB1_8.out.free 1
  go_wp2_with fail
  refine wp_name (fun W => Ext w W ∧ Blk W (w.heap.size + 1) #[.int .i64 7, .string (qs (-n.x / n.y))] 28) ⟨((HX8.out.setCell (by have := HGEB1.out; first | omega | (simp only []; omega) | (simp; omega)) _).setCell (by have := HGEB1.out; first | omega | (simp only []; omega) | (simp; omega)) _), ((HB1_8.out.set 0 (.int .i64 7)).set 1 (.string (qs (-n.x / n.y))))⟩ ?_
  rintro w9 ⟨e9, bB1_9⟩
  have HX9 := Lib.hid e9; have HB1_9 := Lib.hid bB1_9
  clear e9 bB1_9 c1_0 f1_0 c1_1 f1_1
  have gB1_0 := HB1_9.out.cell 0 rfl
  have gB1_1 := HB1_9.out.cell 1 rfl
  refine bodyPost_ret (v := .agg #[.int .i64 7, .string (qs (-n.x / n.y))]) (by simp [results, Tryz.results16, go_sem, gB1_0, gB1_1]) rfl ⟨rfl, HX9.out⟩

set_option maxRecDepth 100000 in
set_option maxHeartbeats 4000000 in
theorem lcomp_zm_lt (n : P2) (w : World) (g : Gd w) (hn : PB 24 n) (hsx : n.x.num.sign = 0) (hsy : n.y.num.sign = -1) (hc : qcmp (-n.x) (-n.y) < 0) : Calls Tryz.prog 16 #[.agg #[.string (qs n.x), .string (qs n.y)]] w (Ret w (.agg #[.int .i64 4, .string (qs (-n.x / -n.y))])) := by
  have HN := Lib.hid hn
  have HSX := Lib.hid hsx
  have HSY := Lib.hid hsy
  have HG := Lib.hid g
  clear hn hsx hsy g
  have HSNX : Hid ((-n.x).num.sign = 0) := Lib.hid (sgn_neg HSX.out (by decide)); have HSNY : Hid ((-n.y).num.sign = 1) := Lib.hid (sgn_neg HSY.out (by decide))
  have hc_d : decide (qcmp (-n.x) (-n.y) < 0) = true := decide_eq_true hc
  clear hc
  go_enter Tryz.func16, Tryz.ntmps16
  go_wp2_with fail
  refine wp_loop_rounds 3 ?_
  rw [rounds_succ]
  go_wp2_with fail
  refine ((HSX.out ▸ rsign_c n.x _)).mono ?_; rintro e _ ⟨rfl, rfl⟩
  go_wp2_with fail
  refine ((HSY.out ▸ rsign_c n.y _)).mono ?_; rintro e _ ⟨rfl, rfl⟩
  go_wp2_with fail
  refine wp_name (fun W => Ext w W ∧ Blk W (w.heap.size) #[.string (qs n.x), .string (qs n.y)] 24 ∧ Blk W (w.heap.size + 1) #[.int .i64 0, .string ⟨#[]⟩] 28) ⟨(((Ext.refl w).alloc _).alloc _), ((Blk.new' (w := _) (cs := #[.string (qs n.x), .string (qs n.y)]) (t := 24) (by first | rfl | (simp only [World.size_alloc]; done) | (simp only [World.size_alloc]; omega) | simp)).alloc _), (Blk.new' (w := _) (cs := #[.int .i64 0, .string ⟨#[]⟩]) (t := 28) (by first | rfl | (simp only [World.size_alloc]; done) | (simp only [World.size_alloc]; omega) | simp))⟩ ?_
  rintro w1 ⟨e1, bB0_1, bB1_1⟩
  have HX1 := Lib.hid e1; have HB0_1 := Lib.hid bB0_1; have HB1_1 := Lib.hid bB1_1
  have HGEB0 : Hid (w.heap.size ≤ w.heap.size) := Lib.hid (by first | omega | (simp only []; omega) | (simp; omega))
  have HGEB1 : Hid (w.heap.size ≤ w.heap.size + 1) := Lib.hid (by first | omega | (simp only []; omega) | (simp; omega))
  clear e1 bB0_1 bB1_1
  refine region_lin_s (X := w) [⟨w.heap.size, #[.string (qs n.x), .string (qs n.y)], #[.string (qs (-n.y)), .string (qs n.x)], 24⟩] [.val (.pointer (some ⟨w.heap.size, 1, none⟩)), .val (.string (qs n.y)), .val (.string (qs (-n.y))), .val (.pointer (some ⟨w.heap.size, 0, none⟩)), .val (.string (qs n.x)), .val (.agg #[.string (qs (-n.y)), .string (qs n.x)]), .st 0] (by kernel_rfl) (by kernel_rfl) (by kernel_rfl) HX1.out.drew (List.forall_mem_cons.2 ⟨⟨HGEB0.out, HB0_1.out.drew⟩, (fun _ h => by cases h)⟩) dis1 ?_ (fun g1 w2 hx_ hk_ hb_ hm_ hne_ => ?_)
  · skip
    refine RnL.cons (fun g1 A_ W_ hs_ => ?_) ?_
    · have q1_ := (hs_.old 1 (by kernel_rfl) : A_.tmps[1]?.getD undef = .pointer (some ⟨w.heap.size, 0, none⟩))
      refine Rn.val fun K_ hK_ => ?_
      go_simp
      exact hK_.out _ (Ext.refl _)
    refine RnL.cons (fun g1 A_ W_ hs_ => ?_) ?_
    · have q41_ := hs_.val 0 rfl rfl rfl
      have cB0_1 := ((hs_.ob 0 rfl (by kernel_rfl))).cell 1 rfl
      refine Rn.val fun K_ hK_ => ?_
      go_simp
      exact hK_.out _ (Ext.refl _)
    refine RnL.cons (fun g1 A_ W_ hs_ => ?_) ?_
    · have q42_ := hs_.val 1 rfl rfl rfl
      refine Rn.val fun K_ hK_ => ?_
      go_simp
      refine (rneg_c n.y _ HN.out.y (by omega)).mono ?_; rintro e W9_ ⟨rfl, e9_⟩; exact hK_.out _ e9_
    refine RnL.cons (fun g1 A_ W_ hs_ => ?_) ?_
    · have q1_ := (hs_.old 1 (by kernel_rfl) : A_.tmps[1]?.getD undef = .pointer (some ⟨w.heap.size, 0, none⟩))
      refine Rn.val fun K_ hK_ => ?_
      go_simp
      exact hK_.out _ (Ext.refl _)
    refine RnL.cons (fun g1 A_ W_ hs_ => ?_) ?_
    · have q44_ := hs_.val 3 rfl rfl rfl
      have cB0_0 := ((hs_.ob 0 rfl (by kernel_rfl))).cell 0 rfl
      refine Rn.val fun K_ hK_ => ?_
      go_simp
      exact hK_.out _ (Ext.refl _)
    refine RnL.cons (fun g1 A_ W_ hs_ => ?_) ?_
    · have q43_ := hs_.val 2 rfl rfl rfl
      have q45_ := hs_.val 4 rfl rfl rfl
      refine Rn.val fun K_ hK_ => ?_
      go_simp
      exact hK_.out _ (Ext.refl _)
    refine RnL.cons (fun g1 A_ W_ hs_ => ?_) ?_
    · have q1_ := (hs_.old 1 (by kernel_rfl) : A_.tmps[1]?.getD undef = .pointer (some ⟨w.heap.size, 0, none⟩))
      have q46_ := hs_.val 5 rfl rfl rfl
      refine Rn.st (n := 0) rfl fun hB0 K_ hK_ => ?_
      have hB : Blk W_ (w.heap.size) #[.string (qs n.x), .string (qs n.y)] 24 := hB0; clear hB0
      have c_0 := hB.cell 0 rfl; have f_0 := hB.free 0
      have c_1 := hB.cell 1 rfl; have f_1 := hB.free 1
      have HB := Lib.hid hB; clear hB
      go_simp
      exact hK_.out _ (((Only.refl _ _).set 0 _).set 1 _) ((HB.out.set 0 _).set 1 _)
    exact RnL.nil
  simp only [fs, Kd.value, puts, Act.put, List.setIfInBounds_toArray, List.set_cons_zero, List.set_cons_succ]
  have HX2 : Hid (Ext w w2) := Lib.hid hx_
  have HB0_2 : Hid (Blk w2 (w.heap.size) #[.string (qs (-n.y)), .string (qs n.x)] 24) := Lib.hid (hb_ 0 _ rfl)
  have HB1_2 : Hid (Blk w2 (w.heap.size + 1) #[.int .i64 0, .string ⟨#[]⟩] 28) := Lib.hid (hk_ _ _ _ (fm2 (show w.heap.size ≠ w.heap.size + 1 from by first | omega | (simp only []; omega) | (simp; omega)) fm0) HB1_1.out.drew)
  clear hx_ hm_ hne_ hk_ hb_
  go_wp2_with fail
  rw [rounds_succ]
  have c0_0 := HB0_2.out.cell 0 rfl
  go_wp2_with fail
  refine ((HSNY.out ▸ rsign_c (-n.y) _)).mono ?_; rintro e _ ⟨rfl, rfl⟩
  clear c0_0
  have c0_1 := HB0_2.out.cell 1 rfl
  go_wp2_with fail
  refine ((HSX.out ▸ rsign_c n.x _)).mono ?_; rintro e _ ⟨rfl, rfl⟩
  clear c0_1
  go_wp2_with fail
  refine wp_name (fun W => Ext w W ∧ Blk W (w.heap.size) #[.string (qs (-n.y)), .string (qs n.x)] 24 ∧ Blk W (w.heap.size + 1) #[.int .i64 0, .string ⟨#[]⟩] 28) ⟨HX2.out, HB0_2.out, HB1_2.out⟩ ?_
  rintro w3 ⟨e3, bB0_3, bB1_3⟩
  have HX3 := Lib.hid e3; have HB0_3 := Lib.hid bB0_3; have HB1_3 := Lib.hid bB1_3
  clear e3 bB0_3 bB1_3
  refine region_lin_s (X := w) [⟨w.heap.size, #[.string (qs (-n.y)), .string (qs n.x)], #[.string (qs (-n.x)), .string (qs (-n.y))], 24⟩] [.val (.pointer (some ⟨w.heap.size, 1, none⟩)), .val (.string (qs n.x)), .val (.string (qs (-n.x))), .val (.pointer (some ⟨w.heap.size, 0, none⟩)), .val (.string (qs (-n.y))), .val (.agg #[.string (qs (-n.x)), .string (qs (-n.y))]), .st 0] (by kernel_rfl) (by kernel_rfl) (by kernel_rfl) HX3.out.drew (List.forall_mem_cons.2 ⟨⟨HGEB0.out, HB0_3.out.drew⟩, (fun _ h => by cases h)⟩) dis1 ?_ (fun g3 w4 hx_ hk_ hb_ hm_ hne_ => ?_)
  · skip
    refine RnL.cons (fun g3 A_ W_ hs_ => ?_) ?_
    · have q1_ := (hs_.old 1 (by kernel_rfl) : A_.tmps[1]?.getD undef = .pointer (some ⟨w.heap.size, 0, none⟩))
      refine Rn.val fun K_ hK_ => ?_
      go_simp
      exact hK_.out _ (Ext.refl _)
    refine RnL.cons (fun g3 A_ W_ hs_ => ?_) ?_
    · have q41_ := hs_.val 0 rfl rfl rfl
      have cB0_1 := ((hs_.ob 0 rfl (by kernel_rfl))).cell 1 rfl
      refine Rn.val fun K_ hK_ => ?_
      go_simp
      exact hK_.out _ (Ext.refl _)
    refine RnL.cons (fun g3 A_ W_ hs_ => ?_) ?_
    · have q42_ := hs_.val 1 rfl rfl rfl
      refine Rn.val fun K_ hK_ => ?_
      go_simp
      refine (rneg_c n.x _ HN.out.x (by omega)).mono ?_; rintro e W9_ ⟨rfl, e9_⟩; exact hK_.out _ e9_
    refine RnL.cons (fun g3 A_ W_ hs_ => ?_) ?_
    · have q1_ := (hs_.old 1 (by kernel_rfl) : A_.tmps[1]?.getD undef = .pointer (some ⟨w.heap.size, 0, none⟩))
      refine Rn.val fun K_ hK_ => ?_
      go_simp
      exact hK_.out _ (Ext.refl _)
    refine RnL.cons (fun g3 A_ W_ hs_ => ?_) ?_
    · have q44_ := hs_.val 3 rfl rfl rfl
      have cB0_0 := ((hs_.ob 0 rfl (by kernel_rfl))).cell 0 rfl
      refine Rn.val fun K_ hK_ => ?_
      go_simp
      exact hK_.out _ (Ext.refl _)
    refine RnL.cons (fun g3 A_ W_ hs_ => ?_) ?_
    · have q43_ := hs_.val 2 rfl rfl rfl
      have q45_ := hs_.val 4 rfl rfl rfl
      refine Rn.val fun K_ hK_ => ?_
      go_simp
      exact hK_.out _ (Ext.refl _)
    refine RnL.cons (fun g3 A_ W_ hs_ => ?_) ?_
    · have q1_ := (hs_.old 1 (by kernel_rfl) : A_.tmps[1]?.getD undef = .pointer (some ⟨w.heap.size, 0, none⟩))
      have q46_ := hs_.val 5 rfl rfl rfl
      refine Rn.st (n := 0) rfl fun hB0 K_ hK_ => ?_
      have hB : Blk W_ (w.heap.size) #[.string (qs (-n.y)), .string (qs n.x)] 24 := hB0; clear hB0
      have c_0 := hB.cell 0 rfl; have f_0 := hB.free 0
      have c_1 := hB.cell 1 rfl; have f_1 := hB.free 1
      have HB := Lib.hid hB; clear hB
      go_simp
      exact hK_.out _ (((Only.refl _ _).set 0 _).set 1 _) ((HB.out.set 0 _).set 1 _)
    exact RnL.nil
  simp only [fs, Kd.value, puts, Act.put, List.setIfInBounds_toArray, List.set_cons_zero, List.set_cons_succ]
  have HX4 : Hid (Ext w w4) := Lib.hid hx_
  have HB0_4 : Hid (Blk w4 (w.heap.size) #[.string (qs (-n.x)), .string (qs (-n.y))] 24) := Lib.hid (hb_ 0 _ rfl)
  have HB1_4 : Hid (Blk w4 (w.heap.size + 1) #[.int .i64 0, .string ⟨#[]⟩] 28) := Lib.hid (hk_ _ _ _ (fm2 (show w.heap.size ≠ w.heap.size + 1 from by first | omega | (simp only []; omega) | (simp; omega)) fm0) HB1_3.out.drew)
  clear hx_ hm_ hne_ hk_ hb_
  go_wp2_with fail
  rw [rounds_succ]
  have c0_0 := HB0_4.out.cell 0 rfl
  go_wp2_with fail
  refine ((HSNX.out ▸ rsign_c (-n.x) _)).mono ?_; rintro e _ ⟨rfl, rfl⟩
  clear c0_0
  have c0_1 := HB0_4.out.cell 1 rfl
  go_wp2_with fail
  refine ((HSNY.out ▸ rsign_c (-n.y) _)).mono ?_; rintro e _ ⟨rfl, rfl⟩
  clear c0_1
  have c0_0 := HB0_4.out.cell 0 rfl
  have c0_1 := HB0_4.out.cell 1 rfl
  go_wp2_with fail
  refine (rcompare_c (-n.x) (-n.y) _ (HG.out.ext HX4.out) HN.out.x.neg HN.out.y.neg (by omega) (by omega)).mono ?_; rintro e w5 ⟨rfl, e5⟩
  have HX5 : Hid (Ext w w5) := Lib.hid (HX4.out.trans e5)
  have HB0_5 := Lib.hid (Blk.ext HB0_4.out e5)
  have HB1_5 := Lib.hid (Blk.ext HB1_4.out e5)
  clear e5 c0_0 c0_1
  have c0_0 := HB0_5.out.cell 0 rfl
  have c0_1 := HB0_5.out.cell 1 rfl
  go_wp2_with fail
  refine (ldiv_c (-n.x) (-n.y) _ (HG.out.ext HX5.out) HN.out.x.neg HN.out.y.neg (by omega) (by omega) (by omega) (ne_of_sgn HSNY.out)).mono ?_; rintro e w6 ⟨rfl, e6⟩
  have HX6 : Hid (Ext w w6) := Lib.hid (HX5.out.trans e6)
  have HB1_6 := Lib.hid (Blk.ext HB1_5.out e6)
  clear e6 c0_0 c0_1
  have c1_0 := HB1_6.out.cell 0 rfl
  have f1_0 := HB1_6.out.free 0
  have c1_1 := HB1_6.out.cell 1 rfl
  have f1_1 := HB1_6.out.free 1
  go_wp2_with fail
  refine wp_name (fun W => Ext w W ∧ Blk W (w.heap.size + 1) #[.int .i64 4, .string (qs (-n.x / -n.y))] 28) ⟨((HX6.out.setCell (by have := HGEB1.out; first | omega | (simp only []; omega) | (simp; omega)) _).setCell (by have := HGEB1.out; first | omega | (simp only []; omega) | (simp; omega)) _), ((HB1_6.out.set 0 (.int .i64 4)).set 1 (.string (qs (-n.x / -n.y))))⟩ ?_
  rintro w7 ⟨e7, bB1_7⟩
  have HX7 := Lib.hid e7; have HB1_7 := Lib.hid bB1_7
  clear e7 bB1_7 c1_0 f1_0 c1_1 f1_1
  have gB1_0 := HB1_7.out.cell 0 rfl
  have gB1_1 := HB1_7.out.cell 1 rfl
  refine bodyPost_ret (v := .agg #[.int .i64 4, .string (qs (-n.x / -n.y))]) (by simp [results, Tryz.results16, go_sem, gB1_0, gB1_1]) rfl ⟨rfl, HX7.out⟩

set_option maxRecDepth 100000 in
set_option maxHeartbeats 4000000 in
theorem lcomp_zp_lt (n : P2) (w : World) (g : Gd w) (hn : PB 24 n) (hsx : n.x.num.sign = 0) (hsy : n.y.num.sign = 1) (hc : qcmp n.x n.y < 0) : Calls Tryz.prog 16 #[.agg #[.string (qs n.x), .string (qs n.y)]] w (Ret w (.agg #[.int .i64 0, .string (qs (n.x / n.y))])) := by
  have HN := Lib.hid hn
  have HSX := Lib.hid hsx
  have HSY := Lib.hid hsy
  have HG := Lib.hid g
  clear hn hsx hsy g
  have HSNX : Hid ((-n.x).num.sign = 0) := Lib.hid (sgn_neg HSX.out (by decide)); have HSNY : Hid ((-n.y).num.sign = -1) := Lib.hid (sgn_neg HSY.out (by decide))
  have hc_d : decide (qcmp n.x n.y < 0) = true := decide_eq_true hc
  clear hc
  go_enter Tryz.func16, Tryz.ntmps16
  go_wp2_with fail
  refine wp_loop_rounds 1 ?_
  rw [rounds_succ]
  go_wp2_with fail
  refine ((HSX.out ▸ rsign_c n.x _)).mono ?_; rintro e _ ⟨rfl, rfl⟩
  go_wp2_with fail
  refine ((HSY.out ▸ rsign_c n.y _)).mono ?_; rintro e _ ⟨rfl, rfl⟩
  go_wp2_with fail
  refine (rcompare_c n.x n.y _ (HG.out.ext (((Ext.refl w).alloc _).alloc _)) HN.out.x HN.out.y (by omega) (by omega)).mono ?_; rintro e w1 ⟨rfl, e1⟩
  have HX1 : Hid (Ext w w1) := Lib.hid ((((Ext.refl w).alloc _).alloc _).trans e1)
  have HB0_1 : Hid (Blk w1 (w.heap.size) #[.string (qs n.x), .string (qs n.y)] 24) := Lib.hid (Blk.ext ((Blk.new' (w := _) (cs := #[.string (qs n.x), .string (qs n.y)]) (t := 24) (by first | rfl | (simp only [World.size_alloc]; done) | (simp only [World.size_alloc]; omega) | simp)).alloc _) e1)
  have HB1_1 : Hid (Blk w1 (w.heap.size + 1) #[.int .i64 0, .string ⟨#[]⟩] 28) := Lib.hid (Blk.ext (Blk.new' (w := _) (cs := #[.int .i64 0, .string ⟨#[]⟩]) (t := 28) (by first | rfl | (simp only [World.size_alloc]; done) | (simp only [World.size_alloc]; omega) | simp)) e1)
  have HGEB0 : Hid (w.heap.size ≤ w.heap.size) := Lib.hid (by first | omega | (simp only []; omega) | (simp; omega))
  have HGEB1 : Hid (w.heap.size ≤ w.heap.size + 1) := Lib.hid (by first | omega | (simp only []; omega) | (simp; omega))
  clear e1
  have c0_0 := HB0_1.out.cell 0 rfl
  have c0_1 := HB0_1.out.cell 1 rfl
  go_wp2_with fail
  refine (ldiv_c n.x n.y _ (HG.out.ext HX1.out) HN.out.x HN.out.y (by omega) (by omega) (by omega) (ne_of_sgn HSY.out)).mono ?_; rintro e w2 ⟨rfl, e2⟩
  have HX2 : Hid (Ext w w2) := Lib.hid (HX1.out.trans e2)
  have HB1_2 := Lib.hid (Blk.ext HB1_1.out e2)
  clear e2 c0_0 c0_1
  have c1_0 := HB1_2.out.cell 0 rfl
  have f1_0 := HB1_2.out.free 0
  have c1_1 := HB1_2.out.cell 1 rfl
  have f1_1 := HB1_2.out.free 1
  go_wp2_with fail
  refine wp_name (fun W => Ext w W ∧ Blk W (w.heap.size + 1) #[.int .i64 0, .string (qs (n.x / n.y))] 28) ⟨((HX2.out.setCell (by have := HGEB1.out; first | omega | (simp only []; omega) | (simp; omega)) _).setCell (by have := HGEB1.out; first | omega | (simp only []; omega) | (simp; omega)) _), ((HB1_2.out.set 0 (.int .i64 0)).set 1 (.string (qs (n.x / n.y))))⟩ ?_
  rintro w3 ⟨e3, bB1_3⟩
  have HX3 := Lib.hid e3; have HB1_3 := Lib.hid bB1_3
  clear e3 bB1_3 c1_0 f1_0 c1_1 f1_1
  have gB1_0 := HB1_3.out.cell 0 rfl
  have gB1_1 := HB1_3.out.cell 1 rfl
  refine bodyPost_ret (v := .agg #[.int .i64 0, .string (qs (n.x / n.y))]) (by simp [results, Tryz.results16, go_sem, gB1_0, gB1_1]) rfl ⟨rfl, HX3.out⟩

set_option maxRecDepth 100000 in
set_option maxHeartbeats 4000000 in
theorem lcomp_pm_lt (n : P2) (w : World) (g : Gd w) (hn : PB 24 n) (hsx : n.x.num.sign = 1) (hsy : n.y.num.sign = -1) (hc : qcmp (-n.y) n.x < 0) : Calls Tryz.prog 16 #[.agg #[.string (qs n.x), .string (qs n.y)]] w (Ret w (.agg #[.int .i64 2, .string (qs (-n.y / n.x))])) := by
  have HN := Lib.hid hn
  have HSX := Lib.hid hsx
  have HSY := Lib.hid hsy
  have HG := Lib.hid g
  clear hn hsx hsy g
  have HSNX : Hid ((-n.x).num.sign = -1) := Lib.hid (sgn_neg HSX.out (by decide)); have HSNY : Hid ((-n.y).num.sign = 1) := Lib.hid (sgn_neg HSY.out (by decide))
  have hc_d : decide (qcmp (-n.y) n.x < 0) = true := decide_eq_true hc
  clear hc
  go_enter Tryz.func16, Tryz.ntmps16
  go_wp2_with fail
  refine wp_loop_rounds 2 ?_
  rw [rounds_succ]
  go_wp2_with fail
  refine ((HSX.out ▸ rsign_c n.x _)).mono ?_; rintro e _ ⟨rfl, rfl⟩
  go_wp2_with fail
  refine ((HSY.out ▸ rsign_c n.y _)).mono ?_; rintro e _ ⟨rfl, rfl⟩
  go_wp2_with fail
  refine wp_name (fun W => Ext w W ∧ Blk W (w.heap.size) #[.string (qs n.x), .string (qs n.y)] 24 ∧ Blk W (w.heap.size + 1) #[.int .i64 0, .string ⟨#[]⟩] 28) ⟨(((Ext.refl w).alloc _).alloc _), ((Blk.new' (w := _) (cs := #[.string (qs n.x), .string (qs n.y)]) (t := 24) (by first | rfl | (simp only [World.size_alloc]; done) | (simp only [World.size_alloc]; omega) | simp)).alloc _), (Blk.new' (w := _) (cs := #[.int .i64 0, .string ⟨#[]⟩]) (t := 28) (by first | rfl | (simp only [World.size_alloc]; done) | (simp only [World.size_alloc]; omega) | simp))⟩ ?_
  rintro w1 ⟨e1, bB0_1, bB1_1⟩
  have HX1 := Lib.hid e1; have HB0_1 := Lib.hid bB0_1; have HB1_1 := Lib.hid bB1_1
  have HGEB0 : Hid (w.heap.size ≤ w.heap.size) := Lib.hid (by first | omega | (simp only []; omega) | (simp; omega))
  have HGEB1 : Hid (w.heap.size ≤ w.heap.size + 1) := Lib.hid (by first | omega | (simp only []; omega) | (simp; omega))
  clear e1 bB0_1 bB1_1
  refine region_lin_s (X := w) [⟨w.heap.size, #[.string (qs n.x), .string (qs n.y)], #[.string (qs (-n.y)), .string (qs n.x)], 24⟩] [.val (.pointer (some ⟨w.heap.size, 1, none⟩)), .val (.string (qs n.y)), .val (.string (qs (-n.y))), .val (.pointer (some ⟨w.heap.size, 0, none⟩)), .val (.string (qs n.x)), .val (.agg #[.string (qs (-n.y)), .string (qs n.x)]), .st 0] (by kernel_rfl) (by kernel_rfl) (by kernel_rfl) HX1.out.drew (List.forall_mem_cons.2 ⟨⟨HGEB0.out, HB0_1.out.drew⟩, (fun _ h => by cases h)⟩) dis1 ?_ (fun g1 w2 hx_ hk_ hb_ hm_ hne_ => ?_)
  · skip
    refine RnL.cons (fun g1 A_ W_ hs_ => ?_) ?_
    · have q1_ := (hs_.old 1 (by kernel_rfl) : A_.tmps[1]?.getD undef = .pointer (some ⟨w.heap.size, 0, none⟩))
      refine Rn.val fun K_ hK_ => ?_
      go_simp
      exact hK_.out _ (Ext.refl _)
    refine RnL.cons (fun g1 A_ W_ hs_ => ?_) ?_
    · have q41_ := hs_.val 0 rfl rfl rfl
      have cB0_1 := ((hs_.ob 0 rfl (by kernel_rfl))).cell 1 rfl
      refine Rn.val fun K_ hK_ => ?_
      go_simp
      exact hK_.out _ (Ext.refl _)
    refine RnL.cons (fun g1 A_ W_ hs_ => ?_) ?_
    · have q42_ := hs_.val 1 rfl rfl rfl
      refine Rn.val fun K_ hK_ => ?_
      go_simp
      refine (rneg_c n.y _ HN.out.y (by omega)).mono ?_; rintro e W9_ ⟨rfl, e9_⟩; exact hK_.out _ e9_
    refine RnL.cons (fun g1 A_ W_ hs_ => ?_) ?_
    · have q1_ := (hs_.old 1 (by kernel_rfl) : A_.tmps[1]?.getD undef = .pointer (some ⟨w.heap.size, 0, none⟩))
      refine Rn.val fun K_ hK_ => ?_
      go_simp
      exact hK_.out _ (Ext.refl _)
    refine RnL.cons (fun g1 A_ W_ hs_ => ?_) ?_
    · have q44_ := hs_.val 3 rfl rfl rfl
      have cB0_0 := ((hs_.ob 0 rfl (by kernel_rfl))).cell 0 rfl
      refine Rn.val fun K_ hK_ => ?_
      go_simp
      exact hK_.out _ (Ext.refl _)
    refine RnL.cons (fun g1 A_ W_ hs_ => ?_) ?_
    · have q43_ := hs_.val 2 rfl rfl rfl
      have q45_ := hs_.val 4 rfl rfl rfl
      refine Rn.val fun K_ hK_ => ?_
      go_simp
      exact hK_.out _ (Ext.refl _)
    refine RnL.cons (fun g1 A_ W_ hs_ => ?_) ?_
    · have q1_ := (hs_.old 1 (by kernel_rfl) : A_.tmps[1]?.getD undef = .pointer (some ⟨w.heap.size, 0, none⟩))
      have q46_ := hs_.val 5 rfl rfl rfl
      refine Rn.st (n := 0) rfl fun hB0 K_ hK_ => ?_
      have hB : Blk W_ (w.heap.size) #[.string (qs n.x), .string (qs n.y)] 24 := hB0; clear hB0
      have c_0 := hB.cell 0 rfl; have f_0 := hB.free 0
      have c_1 := hB.cell 1 rfl; have f_1 := hB.free 1
      have HB := Lib.hid hB; clear hB
      go_simp
      exact hK_.out _ (((Only.refl _ _).set 0 _).set 1 _) ((HB.out.set 0 _).set 1 _)
    exact RnL.nil
  simp only [fs, Kd.value, puts, Act.put, List.setIfInBounds_toArray, List.set_cons_zero, List.set_cons_succ]
  have HX2 : Hid (Ext w w2) := Lib.hid hx_
  have HB0_2 : Hid (Blk w2 (w.heap.size) #[.string (qs (-n.y)), .string (qs n.x)] 24) := Lib.hid (hb_ 0 _ rfl)
  have HB1_2 : Hid (Blk w2 (w.heap.size + 1) #[.int .i64 0, .string ⟨#[]⟩] 28) := Lib.hid (hk_ _ _ _ (fm2 (show w.heap.size ≠ w.heap.size + 1 from by first | omega | (simp only []; omega) | (simp; omega)) fm0) HB1_1.out.drew)
  clear hx_ hm_ hne_ hk_ hb_
  go_wp2_with fail
  rw [rounds_succ]
  have c0_0 := HB0_2.out.cell 0 rfl
  go_wp2_with fail
  refine ((HSNY.out ▸ rsign_c (-n.y) _)).mono ?_; rintro e _ ⟨rfl, rfl⟩
  clear c0_0
  have c0_1 := HB0_2.out.cell 1 rfl
  go_wp2_with fail
  refine ((HSX.out ▸ rsign_c n.x _)).mono ?_; rintro e _ ⟨rfl, rfl⟩
  clear c0_1
  have c0_0 := HB0_2.out.cell 0 rfl
  have c0_1 := HB0_2.out.cell 1 rfl
  go_wp2_with fail
  refine (rcompare_c (-n.y) n.x _ (HG.out.ext HX2.out) HN.out.y.neg HN.out.x (by omega) (by omega)).mono ?_; rintro e w3 ⟨rfl, e3⟩
  have HX3 : Hid (Ext w w3) := Lib.hid (HX2.out.trans e3)
  have HB0_3 := Lib.hid (Blk.ext HB0_2.out e3)
  have HB1_3 := Lib.hid (Blk.ext HB1_2.out e3)
  clear e3 c0_0 c0_1
  have c0_0 := HB0_3.out.cell 0 rfl
  have c0_1 := HB0_3.out.cell 1 rfl
  go_wp2_with fail
  refine (ldiv_c (-n.y) n.x _ (HG.out.ext HX3.out) HN.out.y.neg HN.out.x (by omega) (by omega) (by omega) (ne_of_sgn HSX.out)).mono ?_; rintro e w4 ⟨rfl, e4⟩
  have HX4 : Hid (Ext w w4) := Lib.hid (HX3.out.trans e4)
  have HB1_4 := Lib.hid (Blk.ext HB1_3.out e4)
  clear e4 c0_0 c0_1
  have c1_0 := HB1_4.out.cell 0 rfl
  have f1_0 := HB1_4.out.free 0
  have c1_1 := HB1_4.out.cell 1 rfl
  have f1_1 := HB1_4.out.free 1
  go_wp2_with fail
  refine wp_name (fun W => Ext w W ∧ Blk W (w.heap.size + 1) #[.int .i64 2, .string (qs (-n.y / n.x))] 28) ⟨((HX4.out.setCell (by have := HGEB1.out; first | omega | (simp only []; omega) | (simp; omega)) _).setCell (by have := HGEB1.out; first | omega | (simp only []; omega) | (simp; omega)) _), ((HB1_4.out.set 0 (.int .i64 2)).set 1 (.string (qs (-n.y / n.x))))⟩ ?_
  rintro w5 ⟨e5, bB1_5⟩
  have HX5 := Lib.hid e5; have HB1_5 := Lib.hid bB1_5
  clear e5 bB1_5 c1_0 f1_0 c1_1 f1_1
  have gB1_0 := HB1_5.out.cell 0 rfl
  have gB1_1 := HB1_5.out.cell 1 rfl
  refine bodyPost_ret (v := .agg #[.int .i64 2, .string (qs (-n.y / n.x))]) (by simp [results, Tryz.results16, go_sem, gB1_0, gB1_1]) rfl ⟨rfl, HX5.out⟩

set_option maxRecDepth 100000 in
set_option maxHeartbeats 4000000 in
theorem lcomp_pm_ge (n : P2) (w : World) (g : Gd w) (hn : PB 24 n) (hsx : n.x.num.sign = 1) (hsy : n.y.num.sign = -1) (hc : ¬ qcmp (-n.y) n.x < 0) : Calls Tryz.prog 16 #[.agg #[.string (qs n.x), .string (qs n.y)]] w (Ret w (.agg #[.int .i64 3, .string (qs (n.x / -n.y))])) := by
  have HN := Lib.hid hn
  have HSX := Lib.hid hsx
  have HSY := Lib.hid hsy
  have HG := Lib.hid g
  clear hn hsx hsy g
  have HSNX : Hid ((-n.x).num.sign = -1) := Lib.hid (sgn_neg HSX.out (by decide)); have HSNY : Hid ((-n.y).num.sign = 1) := Lib.hid (sgn_neg HSY.out (by decide))
  have hc_d : decide (qcmp (-n.y) n.x < 0) = false := decide_eq_false hc
  clear hc
  go_enter Tryz.func16, Tryz.ntmps16
  go_wp2_with fail
  refine wp_loop_rounds 2 ?_
  rw [rounds_succ]
  go_wp2_with fail
  refine ((HSX.out ▸ rsign_c n.x _)).mono ?_; rintro e _ ⟨rfl, rfl⟩
  go_wp2_with fail
  refine ((HSY.out ▸ rsign_c n.y _)).mono ?_; rintro e _ ⟨rfl, rfl⟩
  go_wp2_with fail
  refine wp_name (fun W => Ext w W ∧ Blk W (w.heap.size) #[.string (qs n.x), .string (qs n.y)] 24 ∧ Blk W (w.heap.size + 1) #[.int .i64 0, .string ⟨#[]⟩] 28) ⟨(((Ext.refl w).alloc _).alloc _), ((Blk.new' (w := _) (cs := #[.string (qs n.x), .string (qs n.y)]) (t := 24) (by first | rfl | (simp only [World.size_alloc]; done) | (simp only [World.size_alloc]; omega) | simp)).alloc _), (Blk.new' (w := _) (cs := #[.int .i64 0, .string ⟨#[]⟩]) (t := 28) (by first | rfl | (simp only [World.size_alloc]; done) | (simp only [World.size_alloc]; omega) | simp))⟩ ?_
  rintro w1 ⟨e1, bB0_1, bB1_1⟩
  have HX1 := Lib.hid e1; have HB0_1 := Lib.hid bB0_1; have HB1_1 := Lib.hid bB1_1
  have HGEB0 : Hid (w.heap.size ≤ w.heap.size) := Lib.hid (by first | omega | (simp only []; omega) | (simp; omega))
  have HGEB1 : Hid (w.heap.size ≤ w.heap.size + 1) := Lib.hid (by first | omega | (simp only []; omega) | (simp; omega))
  clear e1 bB0_1 bB1_1
  refine region_lin_s (X := w) [⟨w.heap.size, #[.string (qs n.x), .string (qs n.y)], #[.string (qs (-n.y)), .string (qs n.x)], 24⟩] [.val (.pointer (some ⟨w.heap.size, 1, none⟩)), .val (.string (qs n.y)), .val (.string (qs (-n.y))), .val (.pointer (some ⟨w.heap.size, 0, none⟩)), .val (.string (qs n.x)), .val (.agg #[.string (qs (-n.y)), .string (qs n.x)]), .st 0] (by kernel_rfl) (by kernel_rfl) (by kernel_rfl) HX1.out.drew (List.forall_mem_cons.2 ⟨⟨HGEB0.out, HB0_1.out.drew⟩, (fun _ h => by cases h)⟩) dis1 ?_ (fun g1 w2 hx_ hk_ hb_ hm_ hne_ => ?_)
  · skip
    refine RnL.cons (fun g1 A_ W_ hs_ => ?_) ?_
    · have q1_ := (hs_.old 1 (by kernel_rfl) : A_.tmps[1]?.getD undef = .pointer (some ⟨w.heap.size, 0, none⟩))
      refine Rn.val fun K_ hK_ => ?_
      go_simp
      exact hK_.out _ (Ext.refl _)
    refine RnL.cons (fun g1 A_ W_ hs_ => ?_) ?_
    · have q41_ := hs_.val 0 rfl rfl rfl
      have cB0_1 := ((hs_.ob 0 rfl (by kernel_rfl))).cell 1 rfl
      refine Rn.val fun K_ hK_ => ?_
      go_simp
      exact hK_.out _ (Ext.refl _)
    refine RnL.cons (fun g1 A_ W_ hs_ => ?_) ?_
    · have q42_ := hs_.val 1 rfl rfl rfl
      refine Rn.val fun K_ hK_ => ?_
      go_simp
      refine (rneg_c n.y _ HN.out.y (by omega)).mono ?_; rintro e W9_ ⟨rfl, e9_⟩; exact hK_.out _ e9_
    refine RnL.cons (fun g1 A_ W_ hs_ => ?_) ?_
    · have q1_ := (hs_.old 1 (by kernel_rfl) : A_.tmps[1]?.getD undef = .pointer (some ⟨w.heap.size, 0, none⟩))
      refine Rn.val fun K_ hK_ => ?_
      go_simp
      exact hK_.out _ (Ext.refl _)
    refine RnL.cons (fun g1 A_ W_ hs_ => ?_) ?_
    · have q44_ := hs_.val 3 rfl rfl rfl
      have cB0_0 := ((hs_.ob 0 rfl (by kernel_rfl))).cell 0 rfl
      refine Rn.val fun K_ hK_ => ?_
      go_simp
      exact hK_.out _ (Ext.refl _)
    refine RnL.cons (fun g1 A_ W_ hs_ => ?_) ?_
    · have q43_ := hs_.val 2 rfl rfl rfl
      have q45_ := hs_.val 4 rfl rfl rfl
      refine Rn.val fun K_ hK_ => ?_
      go_simp
      exact hK_.out _ (Ext.refl _)
    refine RnL.cons (fun g1 A_ W_ hs_ => ?_) ?_
    · have q1_ := (hs_.old 1 (by kernel_rfl) : A_.tmps[1]?.getD undef = .pointer (some ⟨w.heap.size, 0, none⟩))
      have q46_ := hs_.val 5 rfl rfl rfl
      refine Rn.st (n := 0) rfl fun hB0 K_ hK_ => ?_
      have hB : Blk W_ (w.heap.size) #[.string (qs n.x), .string (qs n.y)] 24 := hB0; clear hB0
      have c_0 := hB.cell 0 rfl; have f_0 := hB.free 0
      have c_1 := hB.cell 1 rfl; have f_1 := hB.free 1
      have HB := Lib.hid hB; clear hB
      go_simp
      exact hK_.out _ (((Only.refl _ _).set 0 _).set 1 _) ((HB.out.set 0 _).set 1 _)
    exact RnL.nil
  simp only [fs, Kd.value, puts, Act.put, List.setIfInBounds_toArray, List.set_cons_zero, List.set_cons_succ]
  have HX2 : Hid (Ext w w2) := Lib.hid hx_
  have HB0_2 : Hid (Blk w2 (w.heap.size) #[.string (qs (-n.y)), .string (qs n.x)] 24) := Lib.hid (hb_ 0 _ rfl)
  have HB1_2 : Hid (Blk w2 (w.heap.size + 1) #[.int .i64 0, .string ⟨#[]⟩] 28) := Lib.hid (hk_ _ _ _ (fm2 (show w.heap.size ≠ w.heap.size + 1 from by first | omega | (simp only []; omega) | (simp; omega)) fm0) HB1_1.out.drew)
  clear hx_ hm_ hne_ hk_ hb_
  go_wp2_with fail
  rw [rounds_succ]
  have c0_0 := HB0_2.out.cell 0 rfl
  go_wp2_with fail
  refine ((HSNY.out ▸ rsign_c (-n.y) _)).mono ?_; rintro e _ ⟨rfl, rfl⟩
  clear c0_0
  have c0_1 := HB0_2.out.cell 1 rfl
  go_wp2_with fail
  refine ((HSX.out ▸ rsign_c n.x _)).mono ?_; rintro e _ ⟨rfl, rfl⟩
  clear c0_1
  have c0_0 := HB0_2.out.cell 0 rfl
  have c0_1 := HB0_2.out.cell 1 rfl
  go_wp2_with fail
  refine (rcompare_c (-n.y) n.x _ (HG.out.ext HX2.out) HN.out.y.neg HN.out.x (by omega) (by omega)).mono ?_; rintro e w3 ⟨rfl, e3⟩
  have HX3 : Hid (Ext w w3) := Lib.hid (HX2.out.trans e3)
  have HB0_3 := Lib.hid (Blk.ext HB0_2.out e3)
  have HB1_3 := Lib.hid (Blk.ext HB1_2.out e3)
  clear e3 c0_0 c0_1
  have c0_1 := HB0_3.out.cell 1 rfl
  have c0_0 := HB0_3.out.cell 0 rfl
  go_wp2_with fail
  refine (ldiv_c n.x (-n.y) _ (HG.out.ext HX3.out) HN.out.x HN.out.y.neg (by omega) (by omega) (by omega) (ne_of_sgn HSNY.out)).mono ?_; rintro e w4 ⟨rfl, e4⟩
  have HX4 : Hid (Ext w w4) := Lib.hid (HX3.out.trans e4)
  have HB1_4 := Lib.hid (Blk.ext HB1_3.out e4)
  clear e4 c0_1 c0_0
  have c1_0 := HB1_4.out.cell 0 rfl
  have f1_0 := HB1_4.out.free 0
  have c1_1 := HB1_4.out.cell 1 rfl
  have f1_1 := HB1_4.out.free 1
  go_wp2_with fail
  refine wp_name (fun W => Ext w W ∧ Blk W (w.heap.size + 1) #[.int .i64 3, .string (qs (n.x / -n.y))] 28) ⟨((HX4.out.setCell (by have := HGEB1.out; first | omega | (simp only []; omega) | (simp; omega)) _).setCell (by have := HGEB1.out; first | omega | (simp only []; omega) | (simp; omega)) _), ((HB1_4.out.set 0 (.int .i64 3)).set 1 (.string (qs (n.x / -n.y))))⟩ ?_
  rintro w5 ⟨e5, bB1_5⟩
  have HX5 := Lib.hid e5; have HB1_5 := Lib.hid bB1_5
  clear e5 bB1_5 c1_0 f1_0 c1_1 f1_1
  have gB1_0 := HB1_5.out.cell 0 rfl
  have gB1_1 := HB1_5.out.cell 1 rfl
  refine bodyPost_ret (v := .agg #[.int .i64 3, .string (qs (n.x / -n.y))]) (by simp [results, Tryz.results16, go_sem, gB1_0, gB1_1]) rfl ⟨rfl, HX5.out⟩

set_option maxRecDepth 100000 in
set_option maxHeartbeats 4000000 in
theorem lcomp_pz_lt (n : P2) (w : World) (g : Gd w) (hn : PB 24 n) (hsx : n.x.num.sign = 1) (hsy : n.y.num.sign = 0) (hc : qcmp (-n.y) n.x < 0) : Calls Tryz.prog 16 #[.agg #[.string (qs n.x), .string (qs n.y)]] w (Ret w (.agg #[.int .i64 2, .string (qs (-n.y / n.x))])) := by
  have HN := Lib.hid hn
  have HSX := Lib.hid hsx
  have HSY := Lib.hid hsy
  have HG := Lib.hid g
  clear hn hsx hsy g
  have HSNX : Hid ((-n.x).num.sign = -1) := Lib.hid (sgn_neg HSX.out (by decide)); have HSNY : Hid ((-n.y).num.sign = 0) := Lib.hid (sgn_neg HSY.out (by decide))
  have hc_d : decide (qcmp (-n.y) n.x < 0) = true := decide_eq_true hc
  clear hc
  go_enter Tryz.func16, Tryz.ntmps16
  go_wp2_with fail
  refine wp_loop_rounds 2 ?_
  rw [rounds_succ]
  go_wp2_with fail
  refine ((HSX.out ▸ rsign_c n.x _)).mono ?_; rintro e _ ⟨rfl, rfl⟩
  go_wp2_with fail
  refine ((HSY.out ▸ rsign_c n.y _)).mono ?_; rintro e _ ⟨rfl, rfl⟩
  go_wp2_with fail
  refine wp_name (fun W => Ext w W ∧ Blk W (w.heap.size) #[.string (qs n.x), .string (qs n.y)] 24 ∧ Blk W (w.heap.size + 1) #[.int .i64 0, .string ⟨#[]⟩] 28) ⟨(((Ext.refl w).alloc _).alloc _), ((Blk.new' (w := _) (cs := #[.string (qs n.x), .string (qs n.y)]) (t := 24) (by first | rfl | (simp only [World.size_alloc]; done) | (simp only [World.size_alloc]; omega) | simp)).alloc _), (Blk.new' (w := _) (cs := #[.int .i64 0, .string ⟨#[]⟩]) (t := 28) (by first | rfl | (simp only [World.size_alloc]; done) | (simp only [World.size_alloc]; omega) | simp))⟩ ?_
  rintro w1 ⟨e1, bB0_1, bB1_1⟩
  have HX1 := Lib.hid e1; have HB0_1 := Lib.hid bB0_1; have HB1_1 := Lib.hid bB1_1
  have HGEB0 : Hid (w.heap.size ≤ w.heap.size) := Lib.hid (by first | omega | (simp only []; omega) | (simp; omega))
  have HGEB1 : Hid (w.heap.size ≤ w.heap.size + 1) := Lib.hid (by first | omega | (simp only []; omega) | (simp; omega))
  clear e1 bB0_1 bB1_1
  refine region_lin_s (X := w) [⟨w.heap.size, #[.string (qs n.x), .string (qs n.y)], #[.string (qs (-n.y)), .string (qs n.x)], 24⟩] [.val (.pointer (some ⟨w.heap.size, 1, none⟩)), .val (.string (qs n.y)), .val (.string (qs (-n.y))), .val (.pointer (some ⟨w.heap.size, 0, none⟩)), .val (.string (qs n.x)), .val (.agg #[.string (qs (-n.y)), .string (qs n.x)]), .st 0] (by kernel_rfl) (by kernel_rfl) (by kernel_rfl) HX1.out.drew (List.forall_mem_cons.2 ⟨⟨HGEB0.out, HB0_1.out.drew⟩, (fun _ h => by cases h)⟩) dis1 ?_ (fun g1 w2 hx_ hk_ hb_ hm_ hne_ => ?_)
  · skip
    refine RnL.cons (fun g1 A_ W_ hs_ => ?_) ?_
    · have q1_ := (hs_.old 1 (by kernel_rfl) : A_.tmps[1]?.getD undef = .pointer (some ⟨w.heap.size, 0, none⟩))
      refine Rn.val fun K_ hK_ => ?_
      go_simp
      exact hK_.out _ (Ext.refl _)
    refine RnL.cons (fun g1 A_ W_ hs_ => ?_) ?_
    · have q41_ := hs_.val 0 rfl rfl rfl
      have cB0_1 := ((hs_.ob 0 rfl (by kernel_rfl))).cell 1 rfl
      refine Rn.val fun K_ hK_ => ?_
      go_simp
      exact hK_.out _ (Ext.refl _)
    refine RnL.cons (fun g1 A_ W_ hs_ => ?_) ?_
    · have q42_ := hs_.val 1 rfl rfl rfl
      refine Rn.val fun K_ hK_ => ?_
      go_simp
      refine (rneg_c n.y _ HN.out.y (by omega)).mono ?_; rintro e W9_ ⟨rfl, e9_⟩; exact hK_.out _ e9_
    refine RnL.cons (fun g1 A_ W_ hs_ => ?_) ?_
    · have q1_ := (hs_.old 1 (by kernel_rfl) : A_.tmps[1]?.getD undef = .pointer (some ⟨w.heap.size, 0, none⟩))
      refine Rn.val fun K_ hK_ => ?_
      go_simp
      exact hK_.out _ (Ext.refl _)
    refine RnL.cons (fun g1 A_ W_ hs_ => ?_) ?_
    · have q44_ := hs_.val 3 rfl rfl rfl
      have cB0_0 := ((hs_.ob 0 rfl (by kernel_rfl))).cell 0 rfl
      refine Rn.val fun K_ hK_ => ?_
      go_simp
      exact hK_.out _ (Ext.refl _)
    refine RnL.cons (fun g1 A_ W_ hs_ => ?_) ?_
    · have q43_ := hs_.val 2 rfl rfl rfl
      have q45_ := hs_.val 4 rfl rfl rfl
      refine Rn.val fun K_ hK_ => ?_
      go_simp
      exact hK_.out _ (Ext.refl _)
    refine RnL.cons (fun g1 A_ W_ hs_ => ?_) ?_
    · have q1_ := (hs_.old 1 (by kernel_rfl) : A_.tmps[1]?.getD undef = .pointer (some ⟨w.heap.size, 0, none⟩))
      have q46_ := hs_.val 5 rfl rfl rfl
      refine Rn.st (n := 0) rfl fun hB0 K_ hK_ => ?_
      have hB : Blk W_ (w.heap.size) #[.string (qs n.x), .string (qs n.y)] 24 := hB0; clear hB0
      have c_0 := hB.cell 0 rfl; have f_0 := hB.free 0
      have c_1 := hB.cell 1 rfl; have f_1 := hB.free 1
      have HB := Lib.hid hB; clear hB
      go_simp
      exact hK_.out _ (((Only.refl _ _).set 0 _).set 1 _) ((HB.out.set 0 _).set 1 _)
    exact RnL.nil
  simp only [fs, Kd.value, puts, Act.put, List.setIfInBounds_toArray, List.set_cons_zero, List.set_cons_succ]
  have HX2 : Hid (Ext w w2) := Lib.hid hx_
  have HB0_2 : Hid (Blk w2 (w.heap.size) #[.string (qs (-n.y)), .string (qs n.x)] 24) := Lib.hid (hb_ 0 _ rfl)
  have HB1_2 : Hid (Blk w2 (w.heap.size + 1) #[.int .i64 0, .string ⟨#[]⟩] 28) := Lib.hid (hk_ _ _ _ (fm2 (show w.heap.size ≠ w.heap.size + 1 from by first | omega | (simp only []; omega) | (simp; omega)) fm0) HB1_1.out.drew)
  clear hx_ hm_ hne_ hk_ hb_
  go_wp2_with fail
  rw [rounds_succ]
  have c0_0 := HB0_2.out.cell 0 rfl
  go_wp2_with fail
  refine ((HSNY.out ▸ rsign_c (-n.y) _)).mono ?_; rintro e _ ⟨rfl, rfl⟩
  clear c0_0
  have c0_1 := HB0_2.out.cell 1 rfl
  go_wp2_with fail
  refine ((HSX.out ▸ rsign_c n.x _)).mono ?_; rintro e _ ⟨rfl, rfl⟩
  clear c0_1
  have c0_0 := HB0_2.out.cell 0 rfl
  have c0_1 := HB0_2.out.cell 1 rfl
  go_wp2_with fail
  refine (rcompare_c (-n.y) n.x _ (HG.out.ext HX2.out) HN.out.y.neg HN.out.x (by omega) (by omega)).mono ?_; rintro e w3 ⟨rfl, e3⟩
  have HX3 : Hid (Ext w w3) := Lib.hid (HX2.out.trans e3)
  have HB0_3 := Lib.hid (Blk.ext HB0_2.out e3)
  have HB1_3 := Lib.hid (Blk.ext HB1_2.out e3)
  clear e3 c0_0 c0_1
  have c0_0 := HB0_3.out.cell 0 rfl
  have c0_1 := HB0_3.out.cell 1 rfl
  go_wp2_with fail
  refine (ldiv_c (-n.y) n.x _ (HG.out.ext HX3.out) HN.out.y.neg HN.out.x (by omega) (by omega) (by omega) (ne_of_sgn HSX.out)).mono ?_; rintro e w4 ⟨rfl, e4⟩
  have HX4 : Hid (Ext w w4) := Lib.hid (HX3.out.trans e4)
  have HB1_4 := Lib.hid (Blk.ext HB1_3.out e4)
  clear e4 c0_0 c0_1
  have c1_0 := HB1_4.out.cell 0 rfl
  have f1_0 := HB1_4.out.free 0
  have c1_1 := HB1_4.out.cell 1 rfl
  have f1_1 := HB1_4.out.free 1
  go_wp2_with fail
  refine wp_name (fun W => Ext w W ∧ Blk W (w.heap.size + 1) #[.int .i64 2, .string (qs (-n.y / n.x))] 28) ⟨((HX4.out.setCell (by have := HGEB1.out; first | omega | (simp only []; omega) | (simp; omega)) _).setCell (by have := HGEB1.out; first | omega | (simp only []; omega) | (simp; omega)) _), ((HB1_4.out.set 0 (.int .i64 2)).set 1 (.string (qs (-n.y / n.x))))⟩ ?_
  rintro w5 ⟨e5, bB1_5⟩
  have HX5 := Lib.hid e5; have HB1_5 := Lib.hid bB1_5
  clear e5 bB1_5 c1_0 f1_0 c1_1 f1_1
  have gB1_0 := HB1_5.out.cell 0 rfl
  have gB1_1 := HB1_5.out.cell 1 rfl
  refine bodyPost_ret (v := .agg #[.int .i64 2, .string (qs (-n.y / n.x))]) (by simp [results, Tryz.results16, go_sem, gB1_0, gB1_1]) rfl ⟨rfl, HX5.out⟩

set_option maxRecDepth 100000 in
set_option maxHeartbeats 4000000 in
theorem lcomp_pp_lt (n : P2) (w : World) (g : Gd w) (hn : PB 24 n) (hsx : n.x.num.sign = 1) (hsy : n.y.num.sign = 1) (hc : qcmp n.x n.y < 0) : Calls Tryz.prog 16 #[.agg #[.string (qs n.x), .string (qs n.y)]] w (Ret w (.agg #[.int .i64 0, .string (qs (n.x / n.y))])) := by
  have HN := Lib.hid hn
  have HSX := Lib.hid hsx
  have HSY := Lib.hid hsy
  have HG := Lib.hid g
  clear hn hsx hsy g
  have HSNX : Hid ((-n.x).num.sign = -1) := Lib.hid (sgn_neg HSX.out (by decide)); have HSNY : Hid ((-n.y).num.sign = -1) := Lib.hid (sgn_neg HSY.out (by decide))
  have hc_d : decide (qcmp n.x n.y < 0) = true := decide_eq_true hc
  clear hc
  go_enter Tryz.func16, Tryz.ntmps16
  go_wp2_with fail
  refine wp_loop_rounds 1 ?_
  rw [rounds_succ]
  go_wp2_with fail
  refine ((HSX.out ▸ rsign_c n.x _)).mono ?_; rintro e _ ⟨rfl, rfl⟩
  go_wp2_with fail
  refine ((HSY.out ▸ rsign_c n.y _)).mono ?_; rintro e _ ⟨rfl, rfl⟩
  go_wp2_with fail
  refine (rcompare_c n.x n.y _ (HG.out.ext (((Ext.refl w).alloc _).alloc _)) HN.out.x HN.out.y (by omega) (by omega)).mono ?_; rintro e w1 ⟨rfl, e1⟩
  have HX1 : Hid (Ext w w1) := Lib.hid ((((Ext.refl w).alloc _).alloc _).trans e1)
  have HB0_1 : Hid (Blk w1 (w.heap.size) #[.string (qs n.x), .string (qs n.y)] 24) := Lib.hid (Blk.ext ((Blk.new' (w := _) (cs := #[.string (qs n.x), .string (qs n.y)]) (t := 24) (by first | rfl | (simp only [World.size_alloc]; done) | (simp only [World.size_alloc]; omega) | simp)).alloc _) e1)
  have HB1_1 : Hid (Blk w1 (w.heap.size + 1) #[.int .i64 0, .string ⟨#[]⟩] 28) := Lib.hid (Blk.ext (Blk.new' (w := _) (cs := #[.int .i64 0, .string ⟨#[]⟩]) (t := 28) (by first | rfl | (simp only [World.size_alloc]; done) | (simp only [World.size_alloc]; omega) | simp)) e1)
  have HGEB0 : Hid (w.heap.size ≤ w.heap.size) := Lib.hid (by first | omega | (simp only []; omega) | (simp; omega))
  have HGEB1 : Hid (w.heap.size ≤ w.heap.size + 1) := Lib.hid (by first | omega | (simp only []; omega) | (simp; omega))
  clear e1
  have c0_0 := HB0_1.out.cell 0 rfl
  have c0_1 := HB0_1.out.cell 1 rfl
  go_wp2_with fail
  refine (ldiv_c n.x n.y _ (HG.out.ext HX1.out) HN.out.x HN.out.y (by omega) (by omega) (by omega) (ne_of_sgn HSY.out)).mono ?_; rintro e w2 ⟨rfl, e2⟩
  have HX2 : Hid (Ext w w2) := Lib.hid (HX1.out.trans e2)
  have HB1_2 := Lib.hid (Blk.ext HB1_1.out e2)
  clear e2 c0_0 c0_1
  have c1_0 := HB1_2.out.cell 0 rfl
  have f1_0 := HB1_2.out.free 0
  have c1_1 := HB1_2.out.cell 1 rfl
  have f1_1 := HB1_2.out.free 1
  go_wp2_with fail
  refine wp_name (fun W => Ext w W ∧ Blk W (w.heap.size + 1) #[.int .i64 0, .string (qs (n.x / n.y))] 28) ⟨((HX2.out.setCell (by have := HGEB1.out; first | omega | (simp only []; omega) | (simp; omega)) _).setCell (by have := HGEB1.out; first | omega | (simp only []; omega) | (simp; omega)) _), ((HB1_2.out.set 0 (.int .i64 0)).set 1 (.string (qs (n.x / n.y))))⟩ ?_
  rintro w3 ⟨e3, bB1_3⟩
  have HX3 := Lib.hid e3; have HB1_3 := Lib.hid bB1_3
  clear e3 bB1_3 c1_0 f1_0 c1_1 f1_1
  have gB1_0 := HB1_3.out.cell 0 rfl
  have gB1_1 := HB1_3.out.cell 1 rfl
  refine bodyPost_ret (v := .agg #[.int .i64 0, .string (qs (n.x / n.y))]) (by simp [results, Tryz.results16, go_sem, gB1_0, gB1_1]) rfl ⟨rfl, HX3.out⟩

set_option maxRecDepth 100000 in
set_option maxHeartbeats 4000000 in
theorem lcomp_pp_ge (n : P2) (w : World) (g : Gd w) (hn : PB 24 n) (hsx : n.x.num.sign = 1) (hsy : n.y.num.sign = 1) (hc : ¬ qcmp n.x n.y < 0) : Calls Tryz.prog 16 #[.agg #[.string (qs n.x), .string (qs n.y)]] w (Ret w (.agg #[.int .i64 1, .string (qs (n.y / n.x))])) := by
  have HN := Lib.hid hn
  have HSX := Lib.hid hsx
  have HSY := Lib.hid hsy
  have HG := Lib.hid g
  clear hn hsx hsy g
  have HSNX : Hid ((-n.x).num.sign = -1) := Lib.hid (sgn_neg HSX.out (by decide)); have HSNY : Hid ((-n.y).num.sign = -1) := Lib.hid (sgn_neg HSY.out (by decide))
  have hc_d : decide (qcmp n.x n.y < 0) = false := decide_eq_false hc
  clear hc
  go_enter Tryz.func16, Tryz.ntmps16
  go_wp2_with fail
  refine wp_loop_rounds 1 ?_
  rw [rounds_succ]
  go_wp2_with fail
  refine ((HSX.out ▸ rsign_c n.x _)).mono ?_; rintro e _ ⟨rfl, rfl⟩
  go_wp2_with fail
  refine ((HSY.out ▸ rsign_c n.y _)).mono ?_; rintro e _ ⟨rfl, rfl⟩
  go_wp2_with fail
  refine (rcompare_c n.x n.y _ (HG.out.ext (((Ext.refl w).alloc _).alloc _)) HN.out.x HN.out.y (by omega) (by omega)).mono ?_; rintro e w1 ⟨rfl, e1⟩
  have HX1 : Hid (Ext w w1) := Lib.hid ((((Ext.refl w).alloc _).alloc _).trans e1)
  have HB0_1 : Hid (Blk w1 (w.heap.size) #[.string (qs n.x), .string (qs n.y)] 24) := Lib.hid (Blk.ext ((Blk.new' (w := _) (cs := #[.string (qs n.x), .string (qs n.y)]) (t := 24) (by first | rfl | (simp only [World.size_alloc]; done) | (simp only [World.size_alloc]; omega) | simp)).alloc _) e1)
  have HB1_1 : Hid (Blk w1 (w.heap.size + 1) #[.int .i64 0, .string ⟨#[]⟩] 28) := Lib.hid (Blk.ext (Blk.new' (w := _) (cs := #[.int .i64 0, .string ⟨#[]⟩]) (t := 28) (by first | rfl | (simp only [World.size_alloc]; done) | (simp only [World.size_alloc]; omega) | simp)) e1)
  have HGEB0 : Hid (w.heap.size ≤ w.heap.size) := Lib.hid (by first | omega | (simp only []; omega) | (simp; omega))
  have HGEB1 : Hid (w.heap.size ≤ w.heap.size + 1) := Lib.hid (by first | omega | (simp only []; omega) | (simp; omega))
  clear e1
  have c0_1 := HB0_1.out.cell 1 rfl
  have c0_0 := HB0_1.out.cell 0 rfl
  go_wp2_with fail
  refine (ldiv_c n.y n.x _ (HG.out.ext HX1.out) HN.out.y HN.out.x (by omega) (by omega) (by omega) (ne_of_sgn HSX.out)).mono ?_; rintro e w2 ⟨rfl, e2⟩
  have HX2 : Hid (Ext w w2) := Lib.hid (HX1.out.trans e2)
  have HB1_2 := Lib.hid (Blk.ext HB1_1.out e2)
  clear e2 c0_1 c0_0
  have c1_0 := HB1_2.out.cell 0 rfl
  have f1_0 := HB1_2.out.free 0
  have c1_1 := HB1_2.out.cell 1 rfl
  have f1_1 := HB1_2.out.free 1
  go_wp2_with fail
  refine wp_name (fun W => Ext w W ∧ Blk W (w.heap.size + 1) #[.int .i64 1, .string (qs (n.y / n.x))] 28) ⟨((HX2.out.setCell (by have := HGEB1.out; first | omega | (simp only []; omega) | (simp; omega)) _).setCell (by have := HGEB1.out; first | omega | (simp only []; omega) | (simp; omega)) _), ((HB1_2.out.set 0 (.int .i64 1)).set 1 (.string (qs (n.y / n.x))))⟩ ?_
  rintro w3 ⟨e3, bB1_3⟩
  have HX3 := Lib.hid e3; have HB1_3 := Lib.hid bB1_3
  clear e3 bB1_3 c1_0 f1_0 c1_1 f1_1
  have gB1_0 := HB1_3.out.cell 0 rfl
  have gB1_1 := HB1_3.out.cell 1 rfl
  refine bodyPost_ret (v := .agg #[.int .i64 1, .string (qs (n.y / n.x))]) (by simp [results, Tryz.results16, go_sem, gB1_0, gB1_1]) rfl ⟨rfl, HX3.out⟩

theorem lcomp_c (n : P2) (w : World) (g : Gd w) (hn : PB 24 n) (hz : ¬ (n.x = 0 ∧ n.y = 0)) : Calls Tryz.prog 16 #[pv n] w (Ret w (.agg #[.int .i64 (cq n.x n.y).1, .string (qs (cq n.x n.y).2)])) := by
  unfold cq
  rcases sgn3 n.x with hx | hx | hx <;> rcases sgn3 n.y with hy | hy | hy
  · rw [quad_mm hx hy]
    by_cases hc : qcmp (-n.x) (-n.y) < 0
    · have := lcomp_mm_lt n w g hn hx hy hc; rw [octo_lt hc]; exact this
    · have := lcomp_mm_ge n w g hn hx hy hc; rw [octo_ge hc]; exact this
  · rw [quad_mz hx hy]
    by_cases hc : qcmp n.y (-n.x) < 0
    · have := lcomp_mz_lt n w g hn hx hy hc; rw [octo_lt hc]; exact this
    · refine absurd (qcmp_lt9.2 ?_) hc; have e := sgn0 hy; have := sgn_pos (sgn_neg hx (show - (-1 : Int) = 1 by decide)); grind
  · rw [quad_mp hx hy]
    by_cases hc : qcmp n.y (-n.x) < 0
    · have := lcomp_mp_lt n w g hn hx hy hc; rw [octo_lt hc]; exact this
    · have := lcomp_mp_ge n w g hn hx hy hc; rw [octo_ge hc]; exact this
  · rw [quad_zm hx hy]
    by_cases hc : qcmp (-n.x) (-n.y) < 0
    · have := lcomp_zm_lt n w g hn hx hy hc; rw [octo_lt hc]; exact this
    · refine absurd (qcmp_lt9.2 ?_) hc; have e := sgn0 hx; have := sgn_pos (sgn_neg hy (show - (-1 : Int) = 1 by decide)); grind
  · exact absurd ⟨sgn0 hx, sgn0 hy⟩ hz
  · rw [quad_zp hx hy]
    by_cases hc : qcmp n.x n.y < 0
    · have := lcomp_zp_lt n w g hn hx hy hc; rw [octo_lt hc]; exact this
    · refine absurd (qcmp_lt9.2 ?_) hc; have e := sgn0 hx; have := sgn_pos hy; grind
  · rw [quad_pm hx hy]
    by_cases hc : qcmp (-n.y) n.x < 0
    · have := lcomp_pm_lt n w g hn hx hy hc; rw [octo_lt hc]; exact this
    · have := lcomp_pm_ge n w g hn hx hy hc; rw [octo_ge hc]; exact this
  · rw [quad_pz hx hy]
    by_cases hc : qcmp (-n.y) n.x < 0
    · have := lcomp_pz_lt n w g hn hx hy hc; rw [octo_lt hc]; exact this
    · refine absurd (qcmp_lt9.2 ?_) hc; have e := sgn0 hy; have := sgn_pos hx; grind
  · rw [quad_pp hx hy]
    by_cases hc : qcmp n.x n.y < 0
    · have := lcomp_pp_lt n w g hn hx hy hc; rw [octo_lt hc]; exact this
    · have := lcomp_pp_ge n w g hn hx hy hc; rw [octo_ge hc]; exact this

set_option maxRecDepth 100000 in
set_option maxHeartbeats 2000000 in
theorem aof_e (n : T2) (w : World) (g : Gd w) (hn : TS2 n) (he : terr n.l = 2) : Calls Tryz.prog 13 #[.agg #[.string n.x, .string n.y]] w (Ret w (.tuple #[.agg #[.int .i64 0, .string ⟨#[]⟩], .int .i64 2])) := by
  have HN := Lib.hid hn
  have HE := Lib.hid he
  have HG := Lib.hid g
  clear hn he g
  go_enter Tryz.func13, Tryz.ntmps13
  go_wp2_with fail
  refine (ahead_e n _ (HG.out.ext (((Ext.refl w).alloc _).alloc _)) HN.out HE.out).mono ?_; rintro e w1 ⟨rfl, e1⟩
  have HX1 : Hid (Ext w w1) := Lib.hid ((((Ext.refl w).alloc _).alloc _).trans e1)
  have HB1_1 : Hid (Blk w1 (w.heap.size + 1) #[.int .i64 0, .string ⟨#[]⟩] 28) := Lib.hid (Blk.ext (Blk.new' (w := _) (cs := #[.int .i64 0, .string ⟨#[]⟩]) (t := 28) (by first | rfl | (simp only [World.size_alloc]; done) | (simp only [World.size_alloc]; omega) | simp)) e1)
  have HGEB1 : Hid (w.heap.size ≤ w.heap.size + 1) := Lib.hid (by first | omega | (simp only []; omega) | (simp; omega))
  clear e1
  have c1_0 := HB1_1.out.cell 0 rfl
  have f1_0 := HB1_1.out.free 0
  have c1_1 := HB1_1.out.cell 1 rfl
  have f1_1 := HB1_1.out.free 1
  go_wp2_with fail
  refine wp_name (fun W => Ext w W ∧ Blk W (w.heap.size + 1) #[.int .i64 0, .string ⟨#[]⟩] 28) ⟨((HX1.out.setCell (by have := HGEB1.out; first | omega | (simp only []; omega) | (simp; omega)) _).setCell (by have := HGEB1.out; first | omega | (simp only []; omega) | (simp; omega)) _), ((HB1_1.out.set 0 (.int .i64 0)).set 1 (.string ⟨#[]⟩))⟩ ?_
  rintro w2 ⟨e2, bB1_2⟩
  have HX2 := Lib.hid e2; have HB1_2 := Lib.hid bB1_2
  clear e2 bB1_2 c1_0 f1_0 c1_1 f1_1
  have gB1_0 := HB1_2.out.cell 0 rfl
  have gB1_1 := HB1_2.out.cell 1 rfl
  refine bodyPost_ret (v := .tuple #[.agg #[.int .i64 0, .string ⟨#[]⟩], .int .i64 2]) (by simp [results, Tryz.results13, go_sem, gB1_0, gB1_1]) rfl ⟨rfl, HX2.out⟩

set_option maxRecDepth 100000 in
set_option maxHeartbeats 2000000 in
theorem aof_z (n : P2) (w : World) (g : Gd w) (hn : PB 200 n) (hz : n.x = 0 ∧ n.y = 0) : Calls Tryz.prog 13 #[.agg #[.string (qs n.x), .string (qs n.y)]] w (Ret w (.tuple #[.agg #[.int .i64 0, .string ⟨#[]⟩], .int .i64 17])) := by
  have HN := Lib.hid hn
  have HZ := Lib.hid hz
  have HG := Lib.hid g
  clear hn hz g
  go_enter Tryz.func13, Tryz.ntmps13
  go_wp2_with fail
  refine (ahead_z n _ (HG.out.ext (((Ext.refl w).alloc _).alloc _)) HN.out HZ.out.1 HZ.out.2).mono ?_; rintro e w1 ⟨rfl, e1⟩
  have HX1 : Hid (Ext w w1) := Lib.hid ((((Ext.refl w).alloc _).alloc _).trans e1)
  have HB1_1 : Hid (Blk w1 (w.heap.size + 1) #[.int .i64 0, .string ⟨#[]⟩] 28) := Lib.hid (Blk.ext (Blk.new' (w := _) (cs := #[.int .i64 0, .string ⟨#[]⟩]) (t := 28) (by first | rfl | (simp only [World.size_alloc]; done) | (simp only [World.size_alloc]; omega) | simp)) e1)
  have HGEB1 : Hid (w.heap.size ≤ w.heap.size + 1) := Lib.hid (by first | omega | (simp only []; omega) | (simp; omega))
  clear e1
  have c1_0 := HB1_1.out.cell 0 rfl
  have f1_0 := HB1_1.out.free 0
  have c1_1 := HB1_1.out.cell 1 rfl
  have f1_1 := HB1_1.out.free 1
  go_wp2_with fail
  refine wp_name (fun W => Ext w W ∧ Blk W (w.heap.size + 1) #[.int .i64 0, .string ⟨#[]⟩] 28) ⟨((HX1.out.setCell (by have := HGEB1.out; first | omega | (simp only []; omega) | (simp; omega)) _).setCell (by have := HGEB1.out; first | omega | (simp only []; omega) | (simp; omega)) _), ((HB1_1.out.set 0 (.int .i64 0)).set 1 (.string ⟨#[]⟩))⟩ ?_
  rintro w2 ⟨e2, bB1_2⟩
  have HX2 := Lib.hid e2; have HB1_2 := Lib.hid bB1_2
  clear e2 bB1_2 c1_0 f1_0 c1_1 f1_1
  have gB1_0 := HB1_2.out.cell 0 rfl
  have gB1_1 := HB1_2.out.cell 1 rfl
  refine bodyPost_ret (v := .tuple #[.agg #[.int .i64 0, .string ⟨#[]⟩], .int .i64 17]) (by simp [results, Tryz.results13, go_sem, gB1_0, gB1_1]) rfl ⟨rfl, HX2.out⟩
end Go.Proofs.YtplimbgaoengfaaGreatDoor
