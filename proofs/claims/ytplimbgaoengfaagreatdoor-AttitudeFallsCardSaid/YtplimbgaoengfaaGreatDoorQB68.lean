/- Part 68 of the proof: N1, Sgn, N10, N10p. -/
import Derived.Test.YtplimbgaoengfaaGreatDoorQB1
import Derived.Test.YtplimbgaoengfaaGreatDoorQB2
import Derived.Test.YtplimbgaoengfaaGreatDoorQB3
import Derived.Test.YtplimbgaoengfaaGreatDoorQB4
import Derived.Test.YtplimbgaoengfaaGreatDoorQB5
import Derived.Test.YtplimbgaoengfaaGreatDoorQB6
import Derived.Test.YtplimbgaoengfaaGreatDoorQB7
import Derived.Test.YtplimbgaoengfaaGreatDoorQB8
import Derived.Test.YtplimbgaoengfaaGreatDoorQB9
import Derived.Test.YtplimbgaoengfaaGreatDoorQB10
import Derived.Test.YtplimbgaoengfaaGreatDoorQB11
import Derived.Test.YtplimbgaoengfaaGreatDoorQB12
import Derived.Test.YtplimbgaoengfaaGreatDoorQB13
import Derived.Test.YtplimbgaoengfaaGreatDoorQB14
import Derived.Test.YtplimbgaoengfaaGreatDoorQB15
import Derived.Test.YtplimbgaoengfaaGreatDoorQB16
import Derived.Test.YtplimbgaoengfaaGreatDoorQB17
import Derived.Test.YtplimbgaoengfaaGreatDoorQB18
import Derived.Test.YtplimbgaoengfaaGreatDoorQB19
import Derived.Test.YtplimbgaoengfaaGreatDoorQB20
import Derived.Test.YtplimbgaoengfaaGreatDoorQB21
import Derived.Test.YtplimbgaoengfaaGreatDoorQB22
import Derived.Test.YtplimbgaoengfaaGreatDoorQB23
import Derived.Test.YtplimbgaoengfaaGreatDoorQB24
import Derived.Test.YtplimbgaoengfaaGreatDoorQB25
import Derived.Test.YtplimbgaoengfaaGreatDoorQB26
import Derived.Test.YtplimbgaoengfaaGreatDoorQB27
import Derived.Test.YtplimbgaoengfaaGreatDoorQB28
import Derived.Test.YtplimbgaoengfaaGreatDoorQB29
import Derived.Test.YtplimbgaoengfaaGreatDoorQB30
import Derived.Test.YtplimbgaoengfaaGreatDoorQB31
import Derived.Test.YtplimbgaoengfaaGreatDoorQB33
import Derived.Test.YtplimbgaoengfaaGreatDoorQB39
import Derived.Test.YtplimbgaoengfaaGreatDoorQB50
import Derived.Test.YtplimbgaoengfaaGreatDoorQB51
import Derived.Test.YtplimbgaoengfaaGreatDoorQB58
import Derived.Test.YtplimbgaoengfaaGreatDoorQB59
import Derived.Test.YtplimbgaoengfaaGreatDoorQB64
namespace Go.Proofs.YtplimbgaoengfaaGreatDoor
open Go Go.RowKit
set_option maxRecDepth 100000 in
set_option maxHeartbeats 2000000 in
theorem adir_ok (n : V3) (w : World) (g : Gd w) (hn : VB 200 n) : Calls Tryz.prog 61 #[.agg #[.string (qs n.x), .string (qs n.y), .string (qs n.z)]] w (Ret w (.tuple #[.agg #[.string (qs n.x), .string (qs n.y), .string (qs n.z)], .int .i64 0])) := by
  have HN := Lib.hid hn
  have HG := Lib.hid g
  clear hn g
  go_enter Tryz.func61, Tryz.ntmps61
  go_wp2_with fail
  refine (vCheck_ok n _ (HG.out.ext (((Ext.refl w).alloc _).alloc _)) HN.out).mono ?_; rintro e w1 ⟨rfl, e1⟩
  have HX1 : Hid (Ext w w1) := Lib.hid ((((Ext.refl w).alloc _).alloc _).trans e1)
  have HB0_1 : Hid (Blk w1 (w.heap.size) #[.string (qs n.x), .string (qs n.y), .string (qs n.z)] 37) := Lib.hid (Blk.ext ((Blk.new' (w := _) (cs := #[.string (qs n.x), .string (qs n.y), .string (qs n.z)]) (t := 37) (by first | rfl | (simp only [World.size_alloc]; done) | (simp only [World.size_alloc]; omega) | simp)).alloc _) e1)
  have HB1_1 : Hid (Blk w1 (w.heap.size + 1) #[.string ⟨#[]⟩, .string ⟨#[]⟩, .string ⟨#[]⟩] 37) := Lib.hid (Blk.ext (Blk.new' (w := _) (cs := #[.string ⟨#[]⟩, .string ⟨#[]⟩, .string ⟨#[]⟩]) (t := 37) (by first | rfl | (simp only [World.size_alloc]; done) | (simp only [World.size_alloc]; omega) | simp)) e1)
  have HGEB0 : Hid (w.heap.size ≤ w.heap.size) := Lib.hid (by first | omega | (simp only []; omega) | (simp; omega))
  have HGEB1 : Hid (w.heap.size ≤ w.heap.size + 1) := Lib.hid (by first | omega | (simp only []; omega) | (simp; omega))
  clear e1
  have c0_0 := HB0_1.out.cell 0 rfl
  have c0_1 := HB0_1.out.cell 1 rfl
  have c0_2 := HB0_1.out.cell 2 rfl
  have c1_0 := HB1_1.out.cell 0 rfl
  have f1_0 := HB1_1.out.free 0
  have c1_1 := HB1_1.out.cell 1 rfl
  have f1_1 := HB1_1.out.free 1
  have c1_2 := HB1_1.out.cell 2 rfl
  have f1_2 := HB1_1.out.free 2
  go_wp2_with fail
  refine wp_name (fun W => Ext w W ∧ Blk W (w.heap.size + 1) #[.string (qs n.x), .string (qs n.y), .string (qs n.z)] 37) ⟨(((HX1.out.setCell (by have := HGEB1.out; first | omega | (simp only []; omega) | (simp; omega)) _).setCell (by have := HGEB1.out; first | omega | (simp only []; omega) | (simp; omega)) _).setCell (by have := HGEB1.out; first | omega | (simp only []; omega) | (simp; omega)) _), (((HB1_1.out.set 0 (.string (qs n.x))).set 1 (.string (qs n.y))).set 2 (.string (qs n.z)))⟩ ?_
  rintro w2 ⟨e2, bB1_2⟩
  have HX2 := Lib.hid e2; have HB1_2 := Lib.hid bB1_2
  clear e2 bB1_2 c0_0 c0_1 c0_2 c1_0 f1_0 c1_1 f1_1 c1_2 f1_2
  have gB1_0 := HB1_2.out.cell 0 rfl
  have gB1_1 := HB1_2.out.cell 1 rfl
  have gB1_2 := HB1_2.out.cell 2 rfl
  refine bodyPost_ret (v := .tuple #[.agg #[.string (qs n.x), .string (qs n.y), .string (qs n.z)], .int .i64 0]) (by simp [results, Tryz.results61, go_sem, gB1_0, gB1_1, gB1_2]) rfl ⟨rfl, HX2.out⟩

end Go.Proofs.YtplimbgaoengfaaGreatDoor

namespace Go.Proofs.YtplimbgaoengfaaGreatDoor
open Go Go.RowKit
theorem qcmp_eq0 {x y : Rat} (h : qcmp x y = 0) : x = y := by
  unfold qcmp at h
  by_cases h1 : x < y
  · rw [if_pos h1] at h; omega
  · rw [if_neg h1] at h
    by_cases h2 : x = y
    · exact h2
    · rw [if_neg h2] at h; omega
end Go.Proofs.YtplimbgaoengfaaGreatDoor

namespace Go.Proofs.YtplimbgaoengfaaGreatDoor
open Go Go.RowKit
set_option linter.unusedVariables false
theorem herr_ex {t : T2} (h : TS2 t) : ∃ e, HErr t e := by
  cases r : t.l.all rq with
  | false => exact ⟨_, .num h r⟩
  | true =>
    obtain ⟨v, hv, hb⟩ := right_p r
    by_cases hz : v.x = 0 ∧ v.y = 0
    · exact ⟨_, .zero v hv hb hz⟩
    · exact ⟨_, .ok v hv hb hz⟩
theorem herr_ok {t : T2} {e : Int} (h : HErr t e) (h0 : e = 0) : ∃ v : P2, t = ⟨qs v.x, qs v.y⟩ ∧ PB 200 v ∧ ¬ (v.x = 0 ∧ v.y = 0) := by
  cases h with
  | num _ _ => omega
  | zero _ _ _ _ => omega
  | ok v ht hv hz => exact ⟨v, ht, hv, hz⟩
theorem ldir_l {t : T2} {e : Int} (w : World) (g : Gd w) (h : HErr t e) : Calls Tryz.prog 14 #[tp t] w (Ret w (.int .i64 e)) := by
  cases h with
  | num hs h => exact ldir_e t w g hs h
  | zero v ht hv hz => subst ht; exact ldir_z v w g hv hz
  | ok v ht hv hz => subst ht; exact ldir_ok v w g hv hz
theorem sizes1' {s : ByteArray} (h : s.size ≤ 1000000) : ∀ (i : Nat) (hi : i < [s].length), ([s][i]).size ≤ 1000000 := fun i hi => by
  have : i = 0 := by simp at hi; exact hi
  subst this; exact h
theorem all1' {s : ByteArray} {b : Bool} (h : rq s = b) : [s].all rq = b := by rw [List.all_cons, h]; simp

set_option maxRecDepth 100000 in
set_option maxHeartbeats 2000000 in
theorem aapp_n (n : T3) (a : T2) (e : Int) (w : World) (g : Gd w) (hen : NErr n e) (he : e ≠ 0) : Calls Tryz.prog 30 #[.agg #[.string n.x, .string n.y, .string n.z], .agg #[.string a.x, .string a.y]] w (Ret w (.tuple #[.string ⟨#[]⟩, .int .i64 e])) := by
  have HEN := Lib.hid hen
  have HG := Lib.hid g
  clear hen g
  have e_d : (e != 0) = true := bne_iff_ne.2 he
  have e_e : (e == 0) = false := beq_eq_false_iff_ne.2 he
  clear he
  go_enter Tryz.func30, Tryz.ntmps30
  go_wp2_with fail
  refine (acheck_l _ (HG.out.ext (((Ext.refl w).alloc _).alloc _)) HEN.out).mono ?_; rintro e w1 ⟨rfl, e1⟩
  have HX1 : Hid (Ext w w1) := Lib.hid ((((Ext.refl w).alloc _).alloc _).trans e1)
  clear e1
  go_wp2
  go_ret2
  exact ⟨rfl, HX1.out⟩

set_option maxRecDepth 100000 in
set_option maxHeartbeats 2000000 in
theorem lfall_c (n : V3) (a : P2) {k m : Nat} (w : World) (g : Gd w) (hn : VB k n) (ha : PB m a) (h0 : n.z ≠ 0) (hk : k ≤ 300) (hk1 : 1 ≤ k) (hm : m ≤ 100) : Calls Tryz.prog 31 #[.agg #[.string (qs n.x), .string (qs n.y), .string (qs n.z)], .agg #[.string (qs a.x), .string (qs a.y)]] w (Ret w (.string (qs ((n.x * a.x + n.y * a.y) / n.z)))) := by
  have HN4 := Lib.hid hn
  have HA4 := Lib.hid ha
  have H0 := Lib.hid h0
  have HG := Lib.hid g
  clear hn ha h0 g
  go_enter Tryz.func31, Tryz.ntmps31
  go_wp2_with fail
  refine wp_name (fun W => Ext w W ∧ Blk W (w.heap.size) #[.string (qs n.x), .string (qs n.y), .string (qs n.z)] 37 ∧ Blk W (w.heap.size + 1) #[.string (qs a.x), .string (qs a.y)] 24) ⟨(((Ext.refl w).alloc _).alloc _), ((Blk.new' (w := _) (cs := #[.string (qs n.x), .string (qs n.y), .string (qs n.z)]) (t := 37) (by first | rfl | (simp only [World.size_alloc]; done) | (simp only [World.size_alloc]; omega) | simp)).alloc _), (Blk.new' (w := _) (cs := #[.string (qs a.x), .string (qs a.y)]) (t := 24) (by first | rfl | (simp only [World.size_alloc]; done) | (simp only [World.size_alloc]; omega) | simp))⟩ ?_
  rintro w1 ⟨e1, bB0_1, bB1_1⟩
  have HX1 := Lib.hid e1; have HB0_1 := Lib.hid bB0_1; have HB1_1 := Lib.hid bB1_1
  have HGEB0 : Hid (w.heap.size ≤ w.heap.size) := Lib.hid (by first | omega | (simp only []; omega) | (simp; omega))
  have HGEB1 : Hid (w.heap.size ≤ w.heap.size + 1) := Lib.hid (by first | omega | (simp only []; omega) | (simp; omega))
  clear e1 bB0_1 bB1_1
  refine region_lin [.val (.pointer (some ⟨w.heap.size, 0, none⟩)), .val (.string (qs n.x)), .val (.pointer (some ⟨w.heap.size + 1, 0, none⟩)), .val (.string (qs a.x)), .val (.string (qs (n.x * a.x))), .val (.pointer (some ⟨w.heap.size, 1, none⟩)), .val (.string (qs n.y)), .val (.pointer (some ⟨w.heap.size + 1, 1, none⟩)), .val (.string (qs a.y)), .val (.string (qs (n.y * a.y))), .val (.string (qs (n.x * a.x + n.y * a.y))), .val (.pointer (some ⟨w.heap.size, 2, none⟩)), .val (.string (qs n.z)), .val (.string (qs ((n.x * a.x + n.y * a.y) / n.z))), .val (.string (qs ((n.x * a.x + n.y * a.y) / n.z)))] (by kernel_rfl) (by kernel_rfl) (by kernel_rfl) ?_ (fun g1 w2 hx_ hm_ hne_ => ?_)
  · skip
    refine RnL.cons (fun g1 A_ W_ hs_ => ?_) ?_
    · have q2_ := (hs_.old 2 (by kernel_rfl) : A_.tmps[2]?.getD undef = .pointer (some ⟨w.heap.size, 0, none⟩))
      refine Rn.val fun K_ hK_ => ?_
      go_simp
      exact hK_.out _ (Ext.refl _)
    refine RnL.cons (fun g1 A_ W_ hs_ => ?_) ?_
    · have q5_ := hs_.val 0 rfl rfl rfl
      have cB0_0 := ((HB0_1.out.drew.ext hs_.1)).cell 0 rfl
      refine Rn.val fun K_ hK_ => ?_
      go_simp
      exact hK_.out _ (Ext.refl _)
    refine RnL.cons (fun g1 A_ W_ hs_ => ?_) ?_
    · have q3_ := (hs_.old 3 (by kernel_rfl) : A_.tmps[3]?.getD undef = .pointer (some ⟨w.heap.size + 1, 0, none⟩))
      refine Rn.val fun K_ hK_ => ?_
      go_simp
      exact hK_.out _ (Ext.refl _)
    refine RnL.cons (fun g1 A_ W_ hs_ => ?_) ?_
    · have q7_ := hs_.val 2 rfl rfl rfl
      have cB1_0 := ((HB1_1.out.drew.ext hs_.1)).cell 0 rfl
      refine Rn.val fun K_ hK_ => ?_
      go_simp
      exact hK_.out _ (Ext.refl _)
    refine RnL.cons (fun g1 A_ W_ hs_ => ?_) ?_
    · have q6_ := hs_.val 1 rfl rfl rfl
      have q8_ := hs_.val 3 rfl rfl rfl
      refine Rn.val fun K_ hK_ => ?_
      go_simp
      refine (rmul_c n.x a.x _ (HG.out.ext (HX1.out.drew.trans hs_.1)) HN4.out.x HA4.out.x (by omega) (by omega)).mono ?_; rintro e W9_ ⟨rfl, e9_⟩; exact hK_.out _ e9_
    refine RnL.cons (fun g1 A_ W_ hs_ => ?_) ?_
    · have q2_ := (hs_.old 2 (by kernel_rfl) : A_.tmps[2]?.getD undef = .pointer (some ⟨w.heap.size, 0, none⟩))
      refine Rn.val fun K_ hK_ => ?_
      go_simp
      exact hK_.out _ (Ext.refl _)
    refine RnL.cons (fun g1 A_ W_ hs_ => ?_) ?_
    · have q10_ := hs_.val 5 rfl rfl rfl
      have cB0_1 := ((HB0_1.out.drew.ext hs_.1)).cell 1 rfl
      refine Rn.val fun K_ hK_ => ?_
      go_simp
      exact hK_.out _ (Ext.refl _)
    refine RnL.cons (fun g1 A_ W_ hs_ => ?_) ?_
    · have q3_ := (hs_.old 3 (by kernel_rfl) : A_.tmps[3]?.getD undef = .pointer (some ⟨w.heap.size + 1, 0, none⟩))
      refine Rn.val fun K_ hK_ => ?_
      go_simp
      exact hK_.out _ (Ext.refl _)
    refine RnL.cons (fun g1 A_ W_ hs_ => ?_) ?_
    · have q12_ := hs_.val 7 rfl rfl rfl
      have cB1_1 := ((HB1_1.out.drew.ext hs_.1)).cell 1 rfl
      refine Rn.val fun K_ hK_ => ?_
      go_simp
      exact hK_.out _ (Ext.refl _)
    refine RnL.cons (fun g1 A_ W_ hs_ => ?_) ?_
    · have q11_ := hs_.val 6 rfl rfl rfl
      have q13_ := hs_.val 8 rfl rfl rfl
      refine Rn.val fun K_ hK_ => ?_
      go_simp
      refine (rmul_c n.y a.y _ (HG.out.ext (HX1.out.drew.trans hs_.1)) HN4.out.y HA4.out.y (by omega) (by omega)).mono ?_; rintro e W9_ ⟨rfl, e9_⟩; exact hK_.out _ e9_
    refine RnL.cons (fun g1 A_ W_ hs_ => ?_) ?_
    · have q9_ := hs_.val 4 rfl rfl rfl
      have q14_ := hs_.val 9 rfl rfl rfl
      refine Rn.val fun K_ hK_ => ?_
      go_simp
      refine (radd_c (n.x * a.x) (n.y * a.y) _ (HG.out.ext (HX1.out.drew.trans hs_.1)) (HN4.out.x.mul HA4.out.x) (HN4.out.y.mul HA4.out.y) (by omega) (by omega)).mono ?_; rintro e W9_ ⟨rfl, e9_⟩; exact hK_.out _ e9_
    refine RnL.cons (fun g1 A_ W_ hs_ => ?_) ?_
    · have q2_ := (hs_.old 2 (by kernel_rfl) : A_.tmps[2]?.getD undef = .pointer (some ⟨w.heap.size, 0, none⟩))
      refine Rn.val fun K_ hK_ => ?_
      go_simp
      exact hK_.out _ (Ext.refl _)
    refine RnL.cons (fun g1 A_ W_ hs_ => ?_) ?_
    · have q16_ := hs_.val 11 rfl rfl rfl
      have cB0_2 := ((HB0_1.out.drew.ext hs_.1)).cell 2 rfl
      refine Rn.val fun K_ hK_ => ?_
      go_simp
      exact hK_.out _ (Ext.refl _)
    refine RnL.cons (fun g1 A_ W_ hs_ => ?_) ?_
    · have q15_ := hs_.val 10 rfl rfl rfl
      have q17_ := hs_.val 12 rfl rfl rfl
      refine Rn.val fun K_ hK_ => ?_
      go_simp
      refine (ldiv_c (n.x * a.x + n.y * a.y) n.z _ (HG.out.ext (HX1.out.drew.trans hs_.1)) ((HN4.out.x.mul HA4.out.x).add (HN4.out.y.mul HA4.out.y)) HN4.out.z (by omega) (by omega) (by omega) H0.out).mono ?_; rintro e W9_ ⟨rfl, e9_⟩; exact hK_.out _ e9_
    refine RnL.cons (fun g1 A_ W_ hs_ => ?_) ?_
    · have q18_ := hs_.val 13 rfl rfl rfl
      refine Rn.val fun K_ hK_ => ?_
      go_simp
      exact hK_.out _ (Ext.refl _)
    exact RnL.nil
  simp only [fs, Kd.value, puts, Act.put, List.setIfInBounds_toArray, List.set_cons_zero, List.set_cons_succ]
  have HX2 : Hid (Ext w w2) := Lib.hid (HX1.out.drew.trans hx_)
  clear hx_ hm_ hne_
  go_wp2
  go_ret
  exact ⟨rfl, HX2.out⟩

theorem lfall_m (X Y : Rat) (a : P2) (r : Rat) (w : World) (g : Gd w) (hX : QB 200 X) (hY : QB 200 Y) (ha : PB 24 a) (h : X * a.x + Y * a.y = r) : Calls Tryz.prog 31 #[.agg #[.string (qs X), .string (qs Y), .string ⟨#[49]⟩], .agg #[.string (qs a.x), .string (qs a.y)]] w (Ret w (.string (qs r))) := by
  have q1 : QB 200 1 := (⟨by decide, by decide⟩ : QB 1 1).mono (by decide)
  have := lfall_c ⟨X, Y, 1⟩ a w g ⟨hX, hY, q1⟩ ha (show (1 : Rat) ≠ 0 by decide) (by decide) (by decide) (by decide)
  have e : (X * a.x + Y * a.y) / 1 = r := by rw [h, Rat.div_def, show (1 : Rat)⁻¹ = 1 by decide +kernel, Rat.mul_one]
  simp only [e, qs_one] at this
  exact this

set_option maxRecDepth 100000 in
set_option maxHeartbeats 2000000 in
theorem true1_c (p q r s : Rat) {k : Nat} (w : World) (g : Gd w) (hp : QB k p) (hq : QB k q) (hr : QB k r) (hs : QB k s) (hk : k ≤ 300) : Calls Tryz.prog 60 #[.string (qs p), .string (qs q), .string (qs r), .string (qs s)] w (Ret w (.string (qs (p * s - q * r)))) := by
  have HP := Lib.hid hp
  have HQ := Lib.hid hq
  have HR := Lib.hid hr
  have HS := Lib.hid hs
  have HG := Lib.hid g
  clear hp hq hr hs g
  go_enter Tryz.func60, Tryz.ntmps60
  go_wp2_with fail
  refine (rmul_c p s _ (HG.out.ext (Ext.refl w)) HP.out HS.out (by omega) (by omega)).mono ?_; rintro e w1 ⟨rfl, e1⟩
  have HX1 : Hid (Ext w w1) := Lib.hid ((Ext.refl w).trans e1)
  clear e1
  go_wp2_with fail
  refine (rmul_c q r _ (HG.out.ext HX1.out) HQ.out HR.out (by omega) (by omega)).mono ?_; rintro e w2 ⟨rfl, e2⟩
  have HX2 : Hid (Ext w w2) := Lib.hid (HX1.out.trans e2)
  clear e2
  go_wp2_with fail
  refine (rsub_c (p * s) (q * r) _ (HG.out.ext HX2.out) (HP.out.mul HS.out) (HQ.out.mul HR.out) (by omega) (by omega)).mono ?_; rintro e w3 ⟨rfl, e3⟩
  have HX3 : Hid (Ext w w3) := Lib.hid (HX2.out.trans e3)
  clear e3
  go_wp2
  go_ret
  exact ⟨rfl, HX3.out⟩

set_option maxRecDepth 100000 in
set_option maxHeartbeats 2000000 in
theorem atrue_a (a b : T2) (p q : ByteArray) (e : Int) (w : World) (g : Gd w) (hea : HErr a e) (he : e ≠ 0) : Calls Tryz.prog 32 #[.agg #[.string a.x, .string a.y, .string p], .agg #[.string b.x, .string b.y, .string q]] w (Ret w (.tuple #[.agg #[.string ⟨#[]⟩, .string ⟨#[]⟩, .string ⟨#[]⟩], .int .i64 e])) := by
  have HEA := Lib.hid hea
  have HG := Lib.hid g
  clear hea g
  have e_d : (e != 0) = true := bne_iff_ne.2 he
  have e_e : (e == 0) = false := beq_eq_false_iff_ne.2 he
  clear he
  have ix0 : ∀ W, (Instr.index 90 (.agg #[.string a.x, .string a.y, .string p, .string b.x, .string b.y, .string q]) (.int .i64 0)).run Tryz.prog W = .ok (.agg #[.string a.x, .string a.y, .string p]) W := fun W => by kernel_rfl
  go_enter Tryz.func32, Tryz.ntmps32
  go_wp2_with fail
  refine wp_loop_rounds 1 ?_
  rw [rounds_succ]
  go_wp2_with fail
  refine (ahead_l _ (HG.out.ext (((((Ext.refl w).alloc _).alloc _).alloc _).alloc _)) HEA.out).mono ?_; rintro e w1 ⟨rfl, e1⟩
  have HX1 : Hid (Ext w w1) := Lib.hid ((((((Ext.refl w).alloc _).alloc _).alloc _).alloc _).trans e1)
  have HB2_1 : Hid (Blk w1 (w.heap.size + 1 + 1) #[.string ⟨#[]⟩, .string ⟨#[]⟩, .string ⟨#[]⟩] 37) := Lib.hid (Blk.ext ((Blk.new' (w := _) (cs := #[.string ⟨#[]⟩, .string ⟨#[]⟩, .string ⟨#[]⟩]) (t := 37) (by first | rfl | (simp only [World.size_alloc]; done) | (simp only [World.size_alloc]; omega) | simp)).alloc _) e1)
  have HGEB2 : Hid (w.heap.size ≤ w.heap.size + 1 + 1) := Lib.hid (by first | omega | (simp only []; omega) | (simp; omega))
  clear e1
  have c2_0 := HB2_1.out.cell 0 rfl
  have f2_0 := HB2_1.out.free 0
  have c2_1 := HB2_1.out.cell 1 rfl
  have f2_1 := HB2_1.out.free 1
  have c2_2 := HB2_1.out.cell 2 rfl
  have f2_2 := HB2_1.out.free 2
  go_wp2_with fail
  refine wp_name (fun W => Ext w W ∧ Blk W (w.heap.size + 1 + 1) #[.string ⟨#[]⟩, .string ⟨#[]⟩, .string ⟨#[]⟩] 37) ⟨(((HX1.out.setCell (by have := HGEB2.out; first | omega | (simp only []; omega) | (simp; omega)) _).setCell (by have := HGEB2.out; first | omega | (simp only []; omega) | (simp; omega)) _).setCell (by have := HGEB2.out; first | omega | (simp only []; omega) | (simp; omega)) _), (((HB2_1.out.set 0 (.string ⟨#[]⟩)).set 1 (.string ⟨#[]⟩)).set 2 (.string ⟨#[]⟩))⟩ ?_
  rintro w2 ⟨e2, bB2_2⟩
  have HX2 := Lib.hid e2; have HB2_2 := Lib.hid bB2_2
  clear e2 bB2_2 c2_0 f2_0 c2_1 f2_1 c2_2 f2_2
  have gB2_0 := HB2_2.out.cell 0 rfl
  have gB2_1 := HB2_2.out.cell 1 rfl
  have gB2_2 := HB2_2.out.cell 2 rfl
  refine bodyPost_ret (v := .tuple #[.agg #[.string ⟨#[]⟩, .string ⟨#[]⟩, .string ⟨#[]⟩], .int .i64 e]) (by simp [results, Tryz.results32, go_sem, gB2_0, gB2_1, gB2_2]) rfl ⟨rfl, HX2.out⟩

set_option maxRecDepth 100000 in
set_option maxHeartbeats 2000000 in
theorem atrue_p (a b : T2) (p q : ByteArray) (w : World) (g : Gd w) (hea : HErr a 0) (hps : p.size ≤ 1000000) (hpr : rq p = false) : Calls Tryz.prog 32 #[.agg #[.string a.x, .string a.y, .string p], .agg #[.string b.x, .string b.y, .string q]] w (Ret w (.tuple #[.agg #[.string ⟨#[]⟩, .string ⟨#[]⟩, .string ⟨#[]⟩], .int .i64 2])) := by
  have HEA := Lib.hid hea
  have HPS := Lib.hid hps
  have HPR := Lib.hid hpr
  have HG := Lib.hid g
  clear hea hps hpr g
  have ix0 : ∀ W, (Instr.index 90 (.agg #[.string a.x, .string a.y, .string p, .string b.x, .string b.y, .string q]) (.int .i64 0)).run Tryz.prog W = .ok (.agg #[.string a.x, .string a.y, .string p]) W := fun W => by kernel_rfl
  go_enter Tryz.func32, Tryz.ntmps32
  go_wp2_with fail
  refine wp_loop_rounds 1 ?_
  rw [rounds_succ]
  go_wp2_with fail
  refine (ahead_l _ (HG.out.ext (((((Ext.refl w).alloc _).alloc _).alloc _).alloc _)) HEA.out).mono ?_; rintro e w1 ⟨rfl, e1⟩
  have HX1 : Hid (Ext w w1) := Lib.hid ((((((Ext.refl w).alloc _).alloc _).alloc _).alloc _).trans e1)
  have HB2_1 : Hid (Blk w1 (w.heap.size + 1 + 1) #[.string ⟨#[]⟩, .string ⟨#[]⟩, .string ⟨#[]⟩] 37) := Lib.hid (Blk.ext ((Blk.new' (w := _) (cs := #[.string ⟨#[]⟩, .string ⟨#[]⟩, .string ⟨#[]⟩]) (t := 37) (by first | rfl | (simp only [World.size_alloc]; done) | (simp only [World.size_alloc]; omega) | simp)).alloc _) e1)
  have HB3_1 : Hid (Blk w1 (w.heap.size + 1 + 1 + 1) #[.string a.x, .string a.y, .string p] 55) := Lib.hid (Blk.ext (Blk.new' (w := _) (cs := #[.string a.x, .string a.y, .string p]) (t := 55) (by first | rfl | (simp only [World.size_alloc]; done) | (simp only [World.size_alloc]; omega) | simp)) e1)
  have HGEB2 : Hid (w.heap.size ≤ w.heap.size + 1 + 1) := Lib.hid (by first | omega | (simp only []; omega) | (simp; omega))
  have HGEB3 : Hid (w.heap.size ≤ w.heap.size + 1 + 1 + 1) := Lib.hid (by first | omega | (simp only []; omega) | (simp; omega))
  clear e1
  have c3_2 := HB3_1.out.cell 2 rfl
  go_wp2_with fail
  refine (rcheck_not p _ (HG.out.ext HX1.out) HPS.out HPR.out).mono ?_; rintro e w2 ⟨rfl, e2⟩
  have HX2 : Hid (Ext w w2) := Lib.hid (HX1.out.trans e2)
  have HB2_2 := Lib.hid (Blk.ext HB2_1.out e2)
  clear e2 c3_2
  have c2_0 := HB2_2.out.cell 0 rfl
  have f2_0 := HB2_2.out.free 0
  have c2_1 := HB2_2.out.cell 1 rfl
  have f2_1 := HB2_2.out.free 1
  have c2_2 := HB2_2.out.cell 2 rfl
  have f2_2 := HB2_2.out.free 2
  go_wp2_with fail
  refine wp_name (fun W => Ext w W ∧ Blk W (w.heap.size + 1 + 1) #[.string ⟨#[]⟩, .string ⟨#[]⟩, .string ⟨#[]⟩] 37) ⟨(((HX2.out.setCell (by have := HGEB2.out; first | omega | (simp only []; omega) | (simp; omega)) _).setCell (by have := HGEB2.out; first | omega | (simp only []; omega) | (simp; omega)) _).setCell (by have := HGEB2.out; first | omega | (simp only []; omega) | (simp; omega)) _), (((HB2_2.out.set 0 (.string ⟨#[]⟩)).set 1 (.string ⟨#[]⟩)).set 2 (.string ⟨#[]⟩))⟩ ?_
  rintro w3 ⟨e3, bB2_3⟩
  have HX3 := Lib.hid e3; have HB2_3 := Lib.hid bB2_3
  clear e3 bB2_3 c2_0 f2_0 c2_1 f2_1 c2_2 f2_2
  have gB2_0 := HB2_3.out.cell 0 rfl
  have gB2_1 := HB2_3.out.cell 1 rfl
  have gB2_2 := HB2_3.out.cell 2 rfl
  refine bodyPost_ret (v := .tuple #[.agg #[.string ⟨#[]⟩, .string ⟨#[]⟩, .string ⟨#[]⟩], .int .i64 2]) (by simp [results, Tryz.results32, go_sem, gB2_0, gB2_1, gB2_2]) rfl ⟨rfl, HX3.out⟩

set_option maxRecDepth 100000 in
set_option maxHeartbeats 2000000 in
theorem atrue_b (a b : T2) (p q : ByteArray) (e : Int) (w : World) (g : Gd w) (hea : HErr a 0) (hps : p.size ≤ 1000000) (hpr : rq p = true) (heb : HErr b e) (he : e ≠ 0) : Calls Tryz.prog 32 #[.agg #[.string a.x, .string a.y, .string p], .agg #[.string b.x, .string b.y, .string q]] w (Ret w (.tuple #[.agg #[.string ⟨#[]⟩, .string ⟨#[]⟩, .string ⟨#[]⟩], .int .i64 e])) := by
  have HEA := Lib.hid hea
  have HPS := Lib.hid hps
  have HPR := Lib.hid hpr
  have HEB := Lib.hid heb
  have HG := Lib.hid g
  clear hea hps hpr heb g
  have e_d : (e != 0) = true := bne_iff_ne.2 he
  have e_e : (e == 0) = false := beq_eq_false_iff_ne.2 he
  clear he
  have ix0 : ∀ W, (Instr.index 90 (.agg #[.string a.x, .string a.y, .string p, .string b.x, .string b.y, .string q]) (.int .i64 0)).run Tryz.prog W = .ok (.agg #[.string a.x, .string a.y, .string p]) W := fun W => by kernel_rfl
  have ix1 : ∀ W, (Instr.index 90 (.agg #[.string a.x, .string a.y, .string p, .string b.x, .string b.y, .string q]) (.int .i64 1)).run Tryz.prog W = .ok (.agg #[.string b.x, .string b.y, .string q]) W := fun W => by kernel_rfl
  go_enter Tryz.func32, Tryz.ntmps32
  go_wp2_with fail
  refine wp_loop_rounds 2 ?_
  rw [rounds_succ]
  go_wp2_with fail
  refine (ahead_l _ (HG.out.ext (((((Ext.refl w).alloc _).alloc _).alloc _).alloc _)) HEA.out).mono ?_; rintro e w1 ⟨rfl, e1⟩
  have HX1 : Hid (Ext w w1) := Lib.hid ((((((Ext.refl w).alloc _).alloc _).alloc _).alloc _).trans e1)
  have HB2_1 : Hid (Blk w1 (w.heap.size + 1 + 1) #[.string ⟨#[]⟩, .string ⟨#[]⟩, .string ⟨#[]⟩] 37) := Lib.hid (Blk.ext ((Blk.new' (w := _) (cs := #[.string ⟨#[]⟩, .string ⟨#[]⟩, .string ⟨#[]⟩]) (t := 37) (by first | rfl | (simp only [World.size_alloc]; done) | (simp only [World.size_alloc]; omega) | simp)).alloc _) e1)
  have HB3_1 : Hid (Blk w1 (w.heap.size + 1 + 1 + 1) #[.string a.x, .string a.y, .string p] 55) := Lib.hid (Blk.ext (Blk.new' (w := _) (cs := #[.string a.x, .string a.y, .string p]) (t := 55) (by first | rfl | (simp only [World.size_alloc]; done) | (simp only [World.size_alloc]; omega) | simp)) e1)
  have HGEB2 : Hid (w.heap.size ≤ w.heap.size + 1 + 1) := Lib.hid (by first | omega | (simp only []; omega) | (simp; omega))
  have HGEB3 : Hid (w.heap.size ≤ w.heap.size + 1 + 1 + 1) := Lib.hid (by first | omega | (simp only []; omega) | (simp; omega))
  clear e1
  have c3_2 := HB3_1.out.cell 2 rfl
  go_wp2_with fail
  refine (rcheck_yes p _ (HG.out.ext HX1.out) HPS.out HPR.out).mono ?_; rintro e w2 ⟨rfl, e2⟩
  have HX2 : Hid (Ext w w2) := Lib.hid (HX1.out.trans e2)
  have HB2_2 := Lib.hid (Blk.ext HB2_1.out e2)
  clear e2 c3_2
  go_wp2_with fail
  rw [rounds_succ]
  go_upto_region 4 with fail
  refine wp_name (fun W => Ext w W ∧ Blk W (w.heap.size + 1 + 1) #[.string ⟨#[]⟩, .string ⟨#[]⟩, .string ⟨#[]⟩] 37 ∧ Blk W (w2.heap.size) #[.string b.x, .string b.y, .string q] 55) ⟨(HX2.out.alloc _), (HB2_2.out.alloc _), (Blk.new' (w := _) (cs := #[.string b.x, .string b.y, .string q]) (t := 55) (by first | rfl | (simp only [World.size_alloc]; done) | (simp only [World.size_alloc]; omega) | simp))⟩ ?_
  rintro w3 ⟨e3, bB2_3, bB4_3⟩
  have HX3 := Lib.hid e3; have HB2_3 := Lib.hid bB2_3; have HB4_3 := Lib.hid bB4_3
  have HGEB4 : Hid (w.heap.size ≤ w2.heap.size) := Lib.hid (by have := HX2.out.size; first | omega | (simp only []; omega) | (simp; omega))
  clear e3 bB2_3 bB4_3
  have c4_0 := HB4_3.out.cell 0 rfl
  have c4_1 := HB4_3.out.cell 1 rfl
  go_wp2_with fail
  refine (ahead_l _ (HG.out.ext HX3.out) HEB.out).mono ?_; rintro e w4 ⟨rfl, e4⟩
  have HX4 : Hid (Ext w w4) := Lib.hid (HX3.out.trans e4)
  have HB2_4 := Lib.hid (Blk.ext HB2_3.out e4)
  clear e4 c4_0 c4_1
  have c2_0 := HB2_4.out.cell 0 rfl
  have f2_0 := HB2_4.out.free 0
  have c2_1 := HB2_4.out.cell 1 rfl
  have f2_1 := HB2_4.out.free 1
  have c2_2 := HB2_4.out.cell 2 rfl
  have f2_2 := HB2_4.out.free 2
  go_wp2_with fail
  refine wp_name (fun W => Ext w W ∧ Blk W (w.heap.size + 1 + 1) #[.string ⟨#[]⟩, .string ⟨#[]⟩, .string ⟨#[]⟩] 37) ⟨(((HX4.out.setCell (by have := HGEB2.out; first | omega | (simp only []; omega) | (simp; omega)) _).setCell (by have := HGEB2.out; first | omega | (simp only []; omega) | (simp; omega)) _).setCell (by have := HGEB2.out; first | omega | (simp only []; omega) | (simp; omega)) _), (((HB2_4.out.set 0 (.string ⟨#[]⟩)).set 1 (.string ⟨#[]⟩)).set 2 (.string ⟨#[]⟩))⟩ ?_
  rintro w5 ⟨e5, bB2_5⟩
  have HX5 := Lib.hid e5; have HB2_5 := Lib.hid bB2_5
  clear e5 bB2_5 c2_0 f2_0 c2_1 f2_1 c2_2 f2_2
  have gB2_0 := HB2_5.out.cell 0 rfl
  have gB2_1 := HB2_5.out.cell 1 rfl
  have gB2_2 := HB2_5.out.cell 2 rfl
  refine bodyPost_ret (v := .tuple #[.agg #[.string ⟨#[]⟩, .string ⟨#[]⟩, .string ⟨#[]⟩], .int .i64 e]) (by simp [results, Tryz.results32, go_sem, gB2_0, gB2_1, gB2_2]) rfl ⟨rfl, HX5.out⟩

set_option maxRecDepth 100000 in
set_option maxHeartbeats 2000000 in
theorem atrue_q (a b : T2) (p q : ByteArray) (w : World) (g : Gd w) (hea : HErr a 0) (hps : p.size ≤ 1000000) (hpr : rq p = true) (heb : HErr b 0) (hqs : q.size ≤ 1000000) (hqr : rq q = false) : Calls Tryz.prog 32 #[.agg #[.string a.x, .string a.y, .string p], .agg #[.string b.x, .string b.y, .string q]] w (Ret w (.tuple #[.agg #[.string ⟨#[]⟩, .string ⟨#[]⟩, .string ⟨#[]⟩], .int .i64 2])) := by
  have HEA := Lib.hid hea
  have HPS := Lib.hid hps
  have HPR := Lib.hid hpr
  have HEB := Lib.hid heb
  have HQS := Lib.hid hqs
  have HQR := Lib.hid hqr
  have HG := Lib.hid g
  clear hea hps hpr heb hqs hqr g
  have ix0 : ∀ W, (Instr.index 90 (.agg #[.string a.x, .string a.y, .string p, .string b.x, .string b.y, .string q]) (.int .i64 0)).run Tryz.prog W = .ok (.agg #[.string a.x, .string a.y, .string p]) W := fun W => by kernel_rfl
  have ix1 : ∀ W, (Instr.index 90 (.agg #[.string a.x, .string a.y, .string p, .string b.x, .string b.y, .string q]) (.int .i64 1)).run Tryz.prog W = .ok (.agg #[.string b.x, .string b.y, .string q]) W := fun W => by kernel_rfl
  go_enter Tryz.func32, Tryz.ntmps32
  go_wp2_with fail
  refine wp_loop_rounds 2 ?_
  rw [rounds_succ]
  go_wp2_with fail
  refine (ahead_l _ (HG.out.ext (((((Ext.refl w).alloc _).alloc _).alloc _).alloc _)) HEA.out).mono ?_; rintro e w1 ⟨rfl, e1⟩
  have HX1 : Hid (Ext w w1) := Lib.hid ((((((Ext.refl w).alloc _).alloc _).alloc _).alloc _).trans e1)
  have HB2_1 : Hid (Blk w1 (w.heap.size + 1 + 1) #[.string ⟨#[]⟩, .string ⟨#[]⟩, .string ⟨#[]⟩] 37) := Lib.hid (Blk.ext ((Blk.new' (w := _) (cs := #[.string ⟨#[]⟩, .string ⟨#[]⟩, .string ⟨#[]⟩]) (t := 37) (by first | rfl | (simp only [World.size_alloc]; done) | (simp only [World.size_alloc]; omega) | simp)).alloc _) e1)
  have HB3_1 : Hid (Blk w1 (w.heap.size + 1 + 1 + 1) #[.string a.x, .string a.y, .string p] 55) := Lib.hid (Blk.ext (Blk.new' (w := _) (cs := #[.string a.x, .string a.y, .string p]) (t := 55) (by first | rfl | (simp only [World.size_alloc]; done) | (simp only [World.size_alloc]; omega) | simp)) e1)
  have HGEB2 : Hid (w.heap.size ≤ w.heap.size + 1 + 1) := Lib.hid (by first | omega | (simp only []; omega) | (simp; omega))
  have HGEB3 : Hid (w.heap.size ≤ w.heap.size + 1 + 1 + 1) := Lib.hid (by first | omega | (simp only []; omega) | (simp; omega))
  clear e1
  have c3_2 := HB3_1.out.cell 2 rfl
  go_wp2_with fail
  refine (rcheck_yes p _ (HG.out.ext HX1.out) HPS.out HPR.out).mono ?_; rintro e w2 ⟨rfl, e2⟩
  have HX2 : Hid (Ext w w2) := Lib.hid (HX1.out.trans e2)
  have HB2_2 := Lib.hid (Blk.ext HB2_1.out e2)
  clear e2 c3_2
  go_wp2_with fail
  rw [rounds_succ]
  go_upto_region 4 with fail
  refine wp_name (fun W => Ext w W ∧ Blk W (w.heap.size + 1 + 1) #[.string ⟨#[]⟩, .string ⟨#[]⟩, .string ⟨#[]⟩] 37 ∧ Blk W (w2.heap.size) #[.string b.x, .string b.y, .string q] 55) ⟨(HX2.out.alloc _), (HB2_2.out.alloc _), (Blk.new' (w := _) (cs := #[.string b.x, .string b.y, .string q]) (t := 55) (by first | rfl | (simp only [World.size_alloc]; done) | (simp only [World.size_alloc]; omega) | simp))⟩ ?_
  rintro w3 ⟨e3, bB2_3, bB4_3⟩
  have HX3 := Lib.hid e3; have HB2_3 := Lib.hid bB2_3; have HB4_3 := Lib.hid bB4_3
  have HGEB4 : Hid (w.heap.size ≤ w2.heap.size) := Lib.hid (by have := HX2.out.size; first | omega | (simp only []; omega) | (simp; omega))
  clear e3 bB2_3 bB4_3
  have c4_0 := HB4_3.out.cell 0 rfl
  have c4_1 := HB4_3.out.cell 1 rfl
  go_wp2_with fail
  refine (ahead_l _ (HG.out.ext HX3.out) HEB.out).mono ?_; rintro e w4 ⟨rfl, e4⟩
  have HX4 : Hid (Ext w w4) := Lib.hid (HX3.out.trans e4)
  have HB2_4 := Lib.hid (Blk.ext HB2_3.out e4)
  have HB4_4 := Lib.hid (Blk.ext HB4_3.out e4)
  clear e4 c4_0 c4_1
  have c4_2 := HB4_4.out.cell 2 rfl
  go_wp2_with fail
  refine (rcheck_not q _ (HG.out.ext HX4.out) HQS.out HQR.out).mono ?_; rintro e w5 ⟨rfl, e5⟩
  have HX5 : Hid (Ext w w5) := Lib.hid (HX4.out.trans e5)
  have HB2_5 := Lib.hid (Blk.ext HB2_4.out e5)
  clear e5 c4_2
  have c2_0 := HB2_5.out.cell 0 rfl
  have f2_0 := HB2_5.out.free 0
  have c2_1 := HB2_5.out.cell 1 rfl
  have f2_1 := HB2_5.out.free 1
  have c2_2 := HB2_5.out.cell 2 rfl
  have f2_2 := HB2_5.out.free 2
  go_wp2_with fail
  refine wp_name (fun W => Ext w W ∧ Blk W (w.heap.size + 1 + 1) #[.string ⟨#[]⟩, .string ⟨#[]⟩, .string ⟨#[]⟩] 37) ⟨(((HX5.out.setCell (by have := HGEB2.out; first | omega | (simp only []; omega) | (simp; omega)) _).setCell (by have := HGEB2.out; first | omega | (simp only []; omega) | (simp; omega)) _).setCell (by have := HGEB2.out; first | omega | (simp only []; omega) | (simp; omega)) _), (((HB2_5.out.set 0 (.string ⟨#[]⟩)).set 1 (.string ⟨#[]⟩)).set 2 (.string ⟨#[]⟩))⟩ ?_
  rintro w6 ⟨e6, bB2_6⟩
  have HX6 := Lib.hid e6; have HB2_6 := Lib.hid bB2_6
  clear e6 bB2_6 c2_0 f2_0 c2_1 f2_1 c2_2 f2_2
  have gB2_0 := HB2_6.out.cell 0 rfl
  have gB2_1 := HB2_6.out.cell 1 rfl
  have gB2_2 := HB2_6.out.cell 2 rfl
  refine bodyPost_ret (v := .tuple #[.agg #[.string ⟨#[]⟩, .string ⟨#[]⟩, .string ⟨#[]⟩], .int .i64 2]) (by simp [results, Tryz.results32, go_sem, gB2_0, gB2_1, gB2_2]) rfl ⟨rfl, HX6.out⟩

set_option maxRecDepth 100000 in
set_option maxHeartbeats 2000000 in
theorem atrue_d (a b : P2) (p q : Rat) (w : World) (g : Gd w) (ha : PB 24 a) (hb : PB 24 b) (hp : QB 24 p) (hq : QB 24 q) (hea : HErr ⟨qs a.x, qs a.y⟩ 0) (heb : HErr ⟨qs b.x, qs b.y⟩ 0) (hd : a.x * b.y - a.y * b.x = 0) : Calls Tryz.prog 32 #[.agg #[.string (qs a.x), .string (qs a.y), .string (qs p)], .agg #[.string (qs b.x), .string (qs b.y), .string (qs q)]] w (Ret w (.tuple #[.agg #[.string ⟨#[]⟩, .string ⟨#[]⟩, .string ⟨#[]⟩], .int .i64 18])) := by
  have HA4 := Lib.hid ha
  have HB4 := Lib.hid hb
  have HP := Lib.hid hp
  have HQ := Lib.hid hq
  have HEA := Lib.hid hea
  have HEB := Lib.hid heb
  have HG := Lib.hid g
  clear ha hb hp hq hea heb g
  have hd_t := qs_is0 hd
  clear hd
  have ix0 : ∀ W, (Instr.index 90 (.agg #[.string (qs a.x), .string (qs a.y), .string (qs p), .string (qs b.x), .string (qs b.y), .string (qs q)]) (.int .i64 0)).run Tryz.prog W = .ok (.agg #[.string (qs a.x), .string (qs a.y), .string (qs p)]) W := fun W => by kernel_rfl
  have ix1 : ∀ W, (Instr.index 90 (.agg #[.string (qs a.x), .string (qs a.y), .string (qs p), .string (qs b.x), .string (qs b.y), .string (qs q)]) (.int .i64 1)).run Tryz.prog W = .ok (.agg #[.string (qs b.x), .string (qs b.y), .string (qs q)]) W := fun W => by kernel_rfl
  go_enter Tryz.func32, Tryz.ntmps32
  go_wp2_with fail
  refine wp_loop_rounds 3 ?_
  rw [rounds_succ]
  go_wp2_with fail
  refine (ahead_l _ (HG.out.ext (((((Ext.refl w).alloc _).alloc _).alloc _).alloc _)) HEA.out).mono ?_; rintro e w1 ⟨rfl, e1⟩
  have HX1 : Hid (Ext w w1) := Lib.hid ((((((Ext.refl w).alloc _).alloc _).alloc _).alloc _).trans e1)
  have HB0_1 : Hid (Blk w1 (w.heap.size) #[.string (qs a.x), .string (qs a.y), .string (qs p)] 55) := Lib.hid (Blk.ext ((((Blk.new' (w := _) (cs := #[.string (qs a.x), .string (qs a.y), .string (qs p)]) (t := 55) (by first | rfl | (simp only [World.size_alloc]; done) | (simp only [World.size_alloc]; omega) | simp)).alloc _).alloc _).alloc _) e1)
  have HB1_1 : Hid (Blk w1 (w.heap.size + 1) #[.string (qs b.x), .string (qs b.y), .string (qs q)] 55) := Lib.hid (Blk.ext (((Blk.new' (w := _) (cs := #[.string (qs b.x), .string (qs b.y), .string (qs q)]) (t := 55) (by first | rfl | (simp only [World.size_alloc]; done) | (simp only [World.size_alloc]; omega) | simp)).alloc _).alloc _) e1)
  have HB2_1 : Hid (Blk w1 (w.heap.size + 1 + 1) #[.string ⟨#[]⟩, .string ⟨#[]⟩, .string ⟨#[]⟩] 37) := Lib.hid (Blk.ext ((Blk.new' (w := _) (cs := #[.string ⟨#[]⟩, .string ⟨#[]⟩, .string ⟨#[]⟩]) (t := 37) (by first | rfl | (simp only [World.size_alloc]; done) | (simp only [World.size_alloc]; omega) | simp)).alloc _) e1)
  have HB3_1 : Hid (Blk w1 (w.heap.size + 1 + 1 + 1) #[.string (qs a.x), .string (qs a.y), .string (qs p)] 55) := Lib.hid (Blk.ext (Blk.new' (w := _) (cs := #[.string (qs a.x), .string (qs a.y), .string (qs p)]) (t := 55) (by first | rfl | (simp only [World.size_alloc]; done) | (simp only [World.size_alloc]; omega) | simp)) e1)
  have HGEB0 : Hid (w.heap.size ≤ w.heap.size) := Lib.hid (by first | omega | (simp only []; omega) | (simp; omega))
  have HGEB1 : Hid (w.heap.size ≤ w.heap.size + 1) := Lib.hid (by first | omega | (simp only []; omega) | (simp; omega))
  have HGEB2 : Hid (w.heap.size ≤ w.heap.size + 1 + 1) := Lib.hid (by first | omega | (simp only []; omega) | (simp; omega))
  have HGEB3 : Hid (w.heap.size ≤ w.heap.size + 1 + 1 + 1) := Lib.hid (by first | omega | (simp only []; omega) | (simp; omega))
  clear e1
  have c3_2 := HB3_1.out.cell 2 rfl
  go_wp2_with fail
  refine (rcheck_yes (qs p) _ (HG.out.ext HX1.out) (((HP.out).mono (by decide) : QB 200 p).len (by decide)) (rq_qs ((HP.out).mono (by decide) : QB 200 p))).mono ?_; rintro e w2 ⟨rfl, e2⟩
  have HX2 : Hid (Ext w w2) := Lib.hid (HX1.out.trans e2)
  have HB0_2 := Lib.hid (Blk.ext HB0_1.out e2)
  have HB1_2 := Lib.hid (Blk.ext HB1_1.out e2)
  have HB2_2 := Lib.hid (Blk.ext HB2_1.out e2)
  clear e2 c3_2
  go_wp2_with fail
  rw [rounds_succ]
  go_upto_region 4 with fail
  refine wp_name (fun W => Ext w W ∧ Blk W (w.heap.size) #[.string (qs a.x), .string (qs a.y), .string (qs p)] 55 ∧ Blk W (w.heap.size + 1) #[.string (qs b.x), .string (qs b.y), .string (qs q)] 55 ∧ Blk W (w.heap.size + 1 + 1) #[.string ⟨#[]⟩, .string ⟨#[]⟩, .string ⟨#[]⟩] 37 ∧ Blk W (w2.heap.size) #[.string (qs b.x), .string (qs b.y), .string (qs q)] 55) ⟨(HX2.out.alloc _), (HB0_2.out.alloc _), (HB1_2.out.alloc _), (HB2_2.out.alloc _), (Blk.new' (w := _) (cs := #[.string (qs b.x), .string (qs b.y), .string (qs q)]) (t := 55) (by first | rfl | (simp only [World.size_alloc]; done) | (simp only [World.size_alloc]; omega) | simp))⟩ ?_
  rintro w3 ⟨e3, bB0_3, bB1_3, bB2_3, bB4_3⟩
  have HX3 := Lib.hid e3; have HB0_3 := Lib.hid bB0_3; have HB1_3 := Lib.hid bB1_3; have HB2_3 := Lib.hid bB2_3; have HB4_3 := Lib.hid bB4_3
  have HGEB4 : Hid (w.heap.size ≤ w2.heap.size) := Lib.hid (by have := HX2.out.size; first | omega | (simp only []; omega) | (simp; omega))
  clear e3 bB0_3 bB1_3 bB2_3 bB4_3
  have c4_0 := HB4_3.out.cell 0 rfl
  have c4_1 := HB4_3.out.cell 1 rfl
  go_wp2_with fail
  refine (ahead_l _ (HG.out.ext HX3.out) HEB.out).mono ?_; rintro e w4 ⟨rfl, e4⟩
  have HX4 : Hid (Ext w w4) := Lib.hid (HX3.out.trans e4)
  have HB0_4 := Lib.hid (Blk.ext HB0_3.out e4)
  have HB1_4 := Lib.hid (Blk.ext HB1_3.out e4)
  have HB2_4 := Lib.hid (Blk.ext HB2_3.out e4)
  have HB4_4 := Lib.hid (Blk.ext HB4_3.out e4)
  clear e4 c4_0 c4_1
  have c4_2 := HB4_4.out.cell 2 rfl
  go_wp2_with fail
  refine (rcheck_yes (qs q) _ (HG.out.ext HX4.out) (((HQ.out).mono (by decide) : QB 200 q).len (by decide)) (rq_qs ((HQ.out).mono (by decide) : QB 200 q))).mono ?_; rintro e w5 ⟨rfl, e5⟩
  have HX5 : Hid (Ext w w5) := Lib.hid (HX4.out.trans e5)
  have HB0_5 := Lib.hid (Blk.ext HB0_4.out e5)
  have HB1_5 := Lib.hid (Blk.ext HB1_4.out e5)
  have HB2_5 := Lib.hid (Blk.ext HB2_4.out e5)
  clear e5 c4_2
  go_wp2_with fail
  rw [rounds_succ]
  have c0_0 := HB0_5.out.cell 0 rfl
  have c0_1 := HB0_5.out.cell 1 rfl
  have c1_0 := HB1_5.out.cell 0 rfl
  have c1_1 := HB1_5.out.cell 1 rfl
  go_wp2_with fail
  refine (true1_c a.x a.y b.x b.y _ (HG.out.ext HX5.out) HA4.out.x HA4.out.y HB4.out.x HB4.out.y (by decide)).mono ?_; rintro e w6 ⟨rfl, e6⟩
  have HX6 : Hid (Ext w w6) := Lib.hid (HX5.out.trans e6)
  have HB2_6 := Lib.hid (Blk.ext HB2_5.out e6)
  clear e6 c0_0 c0_1 c1_0 c1_1
  have c2_0 := HB2_6.out.cell 0 rfl
  have f2_0 := HB2_6.out.free 0
  have c2_1 := HB2_6.out.cell 1 rfl
  have f2_1 := HB2_6.out.free 1
  have c2_2 := HB2_6.out.cell 2 rfl
  have f2_2 := HB2_6.out.free 2
  go_wp2_with fail
  refine wp_name (fun W => Ext w W ∧ Blk W (w.heap.size + 1 + 1) #[.string ⟨#[]⟩, .string ⟨#[]⟩, .string ⟨#[]⟩] 37) ⟨(((HX6.out.setCell (by have := HGEB2.out; first | omega | (simp only []; omega) | (simp; omega)) _).setCell (by have := HGEB2.out; first | omega | (simp only []; omega) | (simp; omega)) _).setCell (by have := HGEB2.out; first | omega | (simp only []; omega) | (simp; omega)) _), (((HB2_6.out.set 0 (.string ⟨#[]⟩)).set 1 (.string ⟨#[]⟩)).set 2 (.string ⟨#[]⟩))⟩ ?_
  rintro w7 ⟨e7, bB2_7⟩
  have HX7 := Lib.hid e7; have HB2_7 := Lib.hid bB2_7
  clear e7 bB2_7 c2_0 f2_0 c2_1 f2_1 c2_2 f2_2
  have gB2_0 := HB2_7.out.cell 0 rfl
  have gB2_1 := HB2_7.out.cell 1 rfl
  have gB2_2 := HB2_7.out.cell 2 rfl
  refine bodyPost_ret (v := .tuple #[.agg #[.string ⟨#[]⟩, .string ⟨#[]⟩, .string ⟨#[]⟩], .int .i64 18]) (by simp [results, Tryz.results32, go_sem, gB2_0, gB2_1, gB2_2]) rfl ⟨rfl, HX7.out⟩

theorem adir_t1 (X Y : Rat) (w : World) (g : Gd w) (hX : QB 200 X) (hY : QB 200 Y) : Calls Tryz.prog 61 #[.agg #[.string (qs X), .string (qs Y), .string ⟨#[49]⟩]] w (Ret w (.tuple #[.agg #[.string (qs X), .string (qs Y), .string ⟨#[49]⟩], .int .i64 0])) := by
  have q1 : QB 200 1 := (⟨by decide, by decide⟩ : QB 1 1).mono (by decide)
  have := adir_ok ⟨X, Y, 1⟩ w g ⟨hX, hY, q1⟩
  simp only [qs_one] at this
  exact this

set_option maxRecDepth 100000 in
set_option maxHeartbeats 8000000 in
theorem atrue_ok (a b : P2) (p q : Rat) (w : World) (g : Gd w) (ha : PB 24 a) (hb : PB 24 b) (hp : QB 24 p) (hq : QB 24 q) (hea : HErr ⟨qs a.x, qs a.y⟩ 0) (heb : HErr ⟨qs b.x, qs b.y⟩ 0) (hd : a.x * b.y - a.y * b.x ≠ 0) : Calls Tryz.prog 32 #[.agg #[.string (qs a.x), .string (qs a.y), .string (qs p)], .agg #[.string (qs b.x), .string (qs b.y), .string (qs q)]] w (Ret w (.tuple #[.agg #[.string (qs ((p * b.y - a.y * q) / (a.x * b.y - a.y * b.x))), .string (qs ((a.x * q - p * b.x) / (a.x * b.y - a.y * b.x))), .string ⟨#[49]⟩], .int .i64 0])) := by
  have HA4 := Lib.hid ha
  have HB4 := Lib.hid hb
  have HP := Lib.hid hp
  have HQ := Lib.hid hq
  have HEA := Lib.hid hea
  have HEB := Lib.hid heb
  have HG := Lib.hid g
  clear ha hb hp hq hea heb g
  have hd_t := qs_not0 hd
  have H0 := Lib.hid hd; clear hd
  have ix0 : ∀ W, (Instr.index 90 (.agg #[.string (qs a.x), .string (qs a.y), .string (qs p), .string (qs b.x), .string (qs b.y), .string (qs q)]) (.int .i64 0)).run Tryz.prog W = .ok (.agg #[.string (qs a.x), .string (qs a.y), .string (qs p)]) W := fun W => by kernel_rfl
  have ix1 : ∀ W, (Instr.index 90 (.agg #[.string (qs a.x), .string (qs a.y), .string (qs p), .string (qs b.x), .string (qs b.y), .string (qs q)]) (.int .i64 1)).run Tryz.prog W = .ok (.agg #[.string (qs b.x), .string (qs b.y), .string (qs q)]) W := fun W => by kernel_rfl
  go_enter Tryz.func32, Tryz.ntmps32
  go_wp2_with fail
  refine wp_loop_rounds 3 ?_
  rw [rounds_succ]
  go_wp2_with fail
  refine (ahead_l _ (HG.out.ext (((((Ext.refl w).alloc _).alloc _).alloc _).alloc _)) HEA.out).mono ?_; rintro e w1 ⟨rfl, e1⟩
  have HX1 : Hid (Ext w w1) := Lib.hid ((((((Ext.refl w).alloc _).alloc _).alloc _).alloc _).trans e1)
  have HB0_1 : Hid (Blk w1 (w.heap.size) #[.string (qs a.x), .string (qs a.y), .string (qs p)] 55) := Lib.hid (Blk.ext ((((Blk.new' (w := _) (cs := #[.string (qs a.x), .string (qs a.y), .string (qs p)]) (t := 55) (by first | rfl | (simp only [World.size_alloc]; done) | (simp only [World.size_alloc]; omega) | simp)).alloc _).alloc _).alloc _) e1)
  have HB1_1 : Hid (Blk w1 (w.heap.size + 1) #[.string (qs b.x), .string (qs b.y), .string (qs q)] 55) := Lib.hid (Blk.ext (((Blk.new' (w := _) (cs := #[.string (qs b.x), .string (qs b.y), .string (qs q)]) (t := 55) (by first | rfl | (simp only [World.size_alloc]; done) | (simp only [World.size_alloc]; omega) | simp)).alloc _).alloc _) e1)
  have HB2_1 : Hid (Blk w1 (w.heap.size + 1 + 1) #[.string ⟨#[]⟩, .string ⟨#[]⟩, .string ⟨#[]⟩] 37) := Lib.hid (Blk.ext ((Blk.new' (w := _) (cs := #[.string ⟨#[]⟩, .string ⟨#[]⟩, .string ⟨#[]⟩]) (t := 37) (by first | rfl | (simp only [World.size_alloc]; done) | (simp only [World.size_alloc]; omega) | simp)).alloc _) e1)
  have HB3_1 : Hid (Blk w1 (w.heap.size + 1 + 1 + 1) #[.string (qs a.x), .string (qs a.y), .string (qs p)] 55) := Lib.hid (Blk.ext (Blk.new' (w := _) (cs := #[.string (qs a.x), .string (qs a.y), .string (qs p)]) (t := 55) (by first | rfl | (simp only [World.size_alloc]; done) | (simp only [World.size_alloc]; omega) | simp)) e1)
  have HGEB0 : Hid (w.heap.size ≤ w.heap.size) := Lib.hid (by first | omega | (simp only []; omega) | (simp; omega))
  have HGEB1 : Hid (w.heap.size ≤ w.heap.size + 1) := Lib.hid (by first | omega | (simp only []; omega) | (simp; omega))
  have HGEB2 : Hid (w.heap.size ≤ w.heap.size + 1 + 1) := Lib.hid (by first | omega | (simp only []; omega) | (simp; omega))
  have HGEB3 : Hid (w.heap.size ≤ w.heap.size + 1 + 1 + 1) := Lib.hid (by first | omega | (simp only []; omega) | (simp; omega))
  clear e1
  have c3_2 := HB3_1.out.cell 2 rfl
  go_wp2_with fail
  refine (rcheck_yes (qs p) _ (HG.out.ext HX1.out) (((HP.out).mono (by decide) : QB 200 p).len (by decide)) (rq_qs ((HP.out).mono (by decide) : QB 200 p))).mono ?_; rintro e w2 ⟨rfl, e2⟩
  have HX2 : Hid (Ext w w2) := Lib.hid (HX1.out.trans e2)
  have HB0_2 := Lib.hid (Blk.ext HB0_1.out e2)
  have HB1_2 := Lib.hid (Blk.ext HB1_1.out e2)
  have HB2_2 := Lib.hid (Blk.ext HB2_1.out e2)
  clear e2 c3_2
  go_wp2_with fail
  rw [rounds_succ]
  go_upto_region 4 with fail
  refine wp_name (fun W => Ext w W ∧ Blk W (w.heap.size) #[.string (qs a.x), .string (qs a.y), .string (qs p)] 55 ∧ Blk W (w.heap.size + 1) #[.string (qs b.x), .string (qs b.y), .string (qs q)] 55 ∧ Blk W (w.heap.size + 1 + 1) #[.string ⟨#[]⟩, .string ⟨#[]⟩, .string ⟨#[]⟩] 37 ∧ Blk W (w2.heap.size) #[.string (qs b.x), .string (qs b.y), .string (qs q)] 55) ⟨(HX2.out.alloc _), (HB0_2.out.alloc _), (HB1_2.out.alloc _), (HB2_2.out.alloc _), (Blk.new' (w := _) (cs := #[.string (qs b.x), .string (qs b.y), .string (qs q)]) (t := 55) (by first | rfl | (simp only [World.size_alloc]; done) | (simp only [World.size_alloc]; omega) | simp))⟩ ?_
  rintro w3 ⟨e3, bB0_3, bB1_3, bB2_3, bB4_3⟩
  have HX3 := Lib.hid e3; have HB0_3 := Lib.hid bB0_3; have HB1_3 := Lib.hid bB1_3; have HB2_3 := Lib.hid bB2_3; have HB4_3 := Lib.hid bB4_3
  have HGEB4 : Hid (w.heap.size ≤ w2.heap.size) := Lib.hid (by have := HX2.out.size; first | omega | (simp only []; omega) | (simp; omega))
  clear e3 bB0_3 bB1_3 bB2_3 bB4_3
  have c4_0 := HB4_3.out.cell 0 rfl
  have c4_1 := HB4_3.out.cell 1 rfl
  go_wp2_with fail
  refine (ahead_l _ (HG.out.ext HX3.out) HEB.out).mono ?_; rintro e w4 ⟨rfl, e4⟩
  have HX4 : Hid (Ext w w4) := Lib.hid (HX3.out.trans e4)
  have HB0_4 := Lib.hid (Blk.ext HB0_3.out e4)
  have HB1_4 := Lib.hid (Blk.ext HB1_3.out e4)
  have HB2_4 := Lib.hid (Blk.ext HB2_3.out e4)
  have HB4_4 := Lib.hid (Blk.ext HB4_3.out e4)
  clear e4 c4_0 c4_1
  have c4_2 := HB4_4.out.cell 2 rfl
  go_wp2_with fail
  refine (rcheck_yes (qs q) _ (HG.out.ext HX4.out) (((HQ.out).mono (by decide) : QB 200 q).len (by decide)) (rq_qs ((HQ.out).mono (by decide) : QB 200 q))).mono ?_; rintro e w5 ⟨rfl, e5⟩
  have HX5 : Hid (Ext w w5) := Lib.hid (HX4.out.trans e5)
  have HB0_5 := Lib.hid (Blk.ext HB0_4.out e5)
  have HB1_5 := Lib.hid (Blk.ext HB1_4.out e5)
  have HB2_5 := Lib.hid (Blk.ext HB2_4.out e5)
  clear e5 c4_2
  go_wp2_with fail
  rw [rounds_succ]
  have c0_0 := HB0_5.out.cell 0 rfl
  have c0_1 := HB0_5.out.cell 1 rfl
  have c1_0 := HB1_5.out.cell 0 rfl
  have c1_1 := HB1_5.out.cell 1 rfl
  go_wp2_with fail
  refine (true1_c a.x a.y b.x b.y _ (HG.out.ext HX5.out) HA4.out.x HA4.out.y HB4.out.x HB4.out.y (by decide)).mono ?_; rintro e w6 ⟨rfl, e6⟩
  have HX6 : Hid (Ext w w6) := Lib.hid (HX5.out.trans e6)
  have HB0_6 := Lib.hid (Blk.ext HB0_5.out e6)
  have HB1_6 := Lib.hid (Blk.ext HB1_5.out e6)
  have HB2_6 := Lib.hid (Blk.ext HB2_5.out e6)
  clear e6 c0_0 c0_1 c1_0 c1_1
  go_wp2_with fail
  refine wp_name (fun W => Ext w W ∧ Blk W (w.heap.size) #[.string (qs a.x), .string (qs a.y), .string (qs p)] 55 ∧ Blk W (w.heap.size + 1) #[.string (qs b.x), .string (qs b.y), .string (qs q)] 55 ∧ Blk W (w.heap.size + 1 + 1) #[.string ⟨#[]⟩, .string ⟨#[]⟩, .string ⟨#[]⟩] 37) ⟨HX6.out, HB0_6.out, HB1_6.out, HB2_6.out⟩ ?_
  rintro w7 ⟨e7, bB0_7, bB1_7, bB2_7⟩
  have HX7 := Lib.hid e7; have HB0_7 := Lib.hid bB0_7; have HB1_7 := Lib.hid bB1_7; have HB2_7 := Lib.hid bB2_7
  clear e7 bB0_7 bB1_7 bB2_7
  refine region_lin_s (X := w) [⟨w.heap.size + 1 + 1, #[.string ⟨#[]⟩, .string ⟨#[]⟩, .string ⟨#[]⟩], #[.string (qs ((p * b.y - a.y * q) / (a.x * b.y - a.y * b.x))), .string (qs ((a.x * q - p * b.x) / (a.x * b.y - a.y * b.x))), .string ⟨#[49]⟩], 37⟩] [.val (.func (.func 60) #[] #[]), .val (.pointer (some ⟨w.heap.size, 2, none⟩)), .val (.string (qs p)), .val (.pointer (some ⟨w.heap.size, 0, none⟩)), .val (.pointer (some ⟨w.heap.size, 1, none⟩)), .val (.string (qs a.y)), .val (.pointer (some ⟨w.heap.size + 1, 2, none⟩)), .val (.string (qs q)), .val (.pointer (some ⟨w.heap.size + 1, 0, none⟩)), .val (.pointer (some ⟨w.heap.size + 1, 1, none⟩)), .val (.string (qs b.y)), .val (.string (qs (p * b.y - a.y * q))), .val (.string (qs (a.x * b.y - a.y * b.x))), .val (.string (qs ((p * b.y - a.y * q) / (a.x * b.y - a.y * b.x)))), .val (.func (.func 60) #[] #[]), .val (.pointer (some ⟨w.heap.size, 0, none⟩)), .val (.pointer (some ⟨w.heap.size, 0, none⟩)), .val (.string (qs a.x)), .val (.pointer (some ⟨w.heap.size, 2, none⟩)), .val (.string (qs p)), .val (.pointer (some ⟨w.heap.size + 1, 0, none⟩)), .val (.pointer (some ⟨w.heap.size + 1, 0, none⟩)), .val (.string (qs b.x)), .val (.pointer (some ⟨w.heap.size + 1, 2, none⟩)), .val (.string (qs q)), .val (.string (qs (a.x * q - p * b.x))), .val (.string (qs (a.x * b.y - a.y * b.x))), .val (.string (qs ((a.x * q - p * b.x) / (a.x * b.y - a.y * b.x)))), .val (.agg #[.string (qs ((p * b.y - a.y * q) / (a.x * b.y - a.y * b.x))), .string (qs ((a.x * q - p * b.x) / (a.x * b.y - a.y * b.x))), .string ⟨#[49]⟩]), .val (.tuple #[.agg #[.string (qs ((p * b.y - a.y * q) / (a.x * b.y - a.y * b.x))), .string (qs ((a.x * q - p * b.x) / (a.x * b.y - a.y * b.x))), .string ⟨#[49]⟩], .int .i64 0]), .val (.agg #[.string (qs ((p * b.y - a.y * q) / (a.x * b.y - a.y * b.x))), .string (qs ((a.x * q - p * b.x) / (a.x * b.y - a.y * b.x))), .string ⟨#[49]⟩]), .val (.int .i64 0), .st 0, .val (.int .i64 0)] (by kernel_rfl) (by kernel_rfl) (by kernel_rfl) HX7.out.drew (List.forall_mem_cons.2 ⟨⟨HGEB2.out, HB2_7.out.drew⟩, (fun _ h => by cases h)⟩) dis1 ?_ (fun g7 w8 hx_ hk_ hb_ hm_ hne_ => ?_)
  · skip
    refine RnL.cons (fun g7 A_ W_ hs_ => ?_) ?_
    · have q9_ := (hs_.old 9 (by kernel_rfl) : A_.tmps[9]?.getD undef = .func (.func 60) #[] #[])
      refine Rn.val fun K_ hK_ => ?_
      go_simp
      exact hK_.out _ (Ext.refl _)
    refine RnL.cons (fun g7 A_ W_ hs_ => ?_) ?_
    · have q2_ := (hs_.old 2 (by kernel_rfl) : A_.tmps[2]?.getD undef = .pointer (some ⟨w.heap.size, 0, none⟩))
      refine Rn.val fun K_ hK_ => ?_
      go_simp
      exact hK_.out _ (Ext.refl _)
    refine RnL.cons (fun g7 A_ W_ hs_ => ?_) ?_
    · have q48_ := hs_.val 1 rfl rfl rfl
      have cB0_2 := ((hs_.keep (fm2 (show w.heap.size + 1 + 1 ≠ w.heap.size from by first | omega | (simp only []; omega) | (simp; omega)) fm0) HB0_7.out.drew)).cell 2 rfl
      refine Rn.val fun K_ hK_ => ?_
      go_simp
      exact hK_.out _ (Ext.refl _)
    refine RnL.cons (fun g7 A_ W_ hs_ => ?_) ?_
    · have q2_ := (hs_.old 2 (by kernel_rfl) : A_.tmps[2]?.getD undef = .pointer (some ⟨w.heap.size, 0, none⟩))
      refine Rn.val fun K_ hK_ => ?_
      go_simp
      exact hK_.out _ (Ext.refl _)
    refine RnL.cons (fun g7 A_ W_ hs_ => ?_) ?_
    · have q50_ := hs_.val 3 rfl rfl rfl
      refine Rn.val fun K_ hK_ => ?_
      go_simp
      exact hK_.out _ (Ext.refl _)
    refine RnL.cons (fun g7 A_ W_ hs_ => ?_) ?_
    · have q51_ := hs_.val 4 rfl rfl rfl
      have cB0_1 := ((hs_.keep (fm2 (show w.heap.size + 1 + 1 ≠ w.heap.size from by first | omega | (simp only []; omega) | (simp; omega)) fm0) HB0_7.out.drew)).cell 1 rfl
      refine Rn.val fun K_ hK_ => ?_
      go_simp
      exact hK_.out _ (Ext.refl _)
    refine RnL.cons (fun g7 A_ W_ hs_ => ?_) ?_
    · have q3_ := (hs_.old 3 (by kernel_rfl) : A_.tmps[3]?.getD undef = .pointer (some ⟨w.heap.size + 1, 0, none⟩))
      refine Rn.val fun K_ hK_ => ?_
      go_simp
      exact hK_.out _ (Ext.refl _)
    refine RnL.cons (fun g7 A_ W_ hs_ => ?_) ?_
    · have q53_ := hs_.val 6 rfl rfl rfl
      have cB1_2 := ((hs_.keep (fm2 (show w.heap.size + 1 + 1 ≠ w.heap.size + 1 from by first | omega | (simp only []; omega) | (simp; omega)) fm0) HB1_7.out.drew)).cell 2 rfl
      refine Rn.val fun K_ hK_ => ?_
      go_simp
      exact hK_.out _ (Ext.refl _)
    refine RnL.cons (fun g7 A_ W_ hs_ => ?_) ?_
    · have q3_ := (hs_.old 3 (by kernel_rfl) : A_.tmps[3]?.getD undef = .pointer (some ⟨w.heap.size + 1, 0, none⟩))
      refine Rn.val fun K_ hK_ => ?_
      go_simp
      exact hK_.out _ (Ext.refl _)
    refine RnL.cons (fun g7 A_ W_ hs_ => ?_) ?_
    · have q55_ := hs_.val 8 rfl rfl rfl
      refine Rn.val fun K_ hK_ => ?_
      go_simp
      exact hK_.out _ (Ext.refl _)
    refine RnL.cons (fun g7 A_ W_ hs_ => ?_) ?_
    · have q56_ := hs_.val 9 rfl rfl rfl
      have cB1_1 := ((hs_.keep (fm2 (show w.heap.size + 1 + 1 ≠ w.heap.size + 1 from by first | omega | (simp only []; omega) | (simp; omega)) fm0) HB1_7.out.drew)).cell 1 rfl
      refine Rn.val fun K_ hK_ => ?_
      go_simp
      exact hK_.out _ (Ext.refl _)
    refine RnL.cons (fun g7 A_ W_ hs_ => ?_) ?_
    · have q47_ := hs_.val 0 rfl rfl rfl
      have q49_ := hs_.val 2 rfl rfl rfl
      have q52_ := hs_.val 5 rfl rfl rfl
      have q54_ := hs_.val 7 rfl rfl rfl
      have q57_ := hs_.val 10 rfl rfl rfl
      refine Rn.val fun K_ hK_ => ?_
      go_simp
      refine (true1_c p a.y q b.y _ (HG.out.ext hs_.1) HP.out HA4.out.y HQ.out HB4.out.y (by decide)).mono ?_; rintro e W9_ ⟨rfl, e9_⟩; exact hK_.out _ e9_
    refine RnL.cons (fun g7 A_ W_ hs_ => ?_) ?_
    · have q10_ := (hs_.old 10 (by kernel_rfl) : A_.tmps[10]?.getD undef = .string (qs (a.x * b.y - a.y * b.x)))
      refine Rn.val fun K_ hK_ => ?_
      go_simp
      exact hK_.out _ (Ext.refl _)
    refine RnL.cons (fun g7 A_ W_ hs_ => ?_) ?_
    · have q58_ := hs_.val 11 rfl rfl rfl
      have q59_ := hs_.val 12 rfl rfl rfl
      refine Rn.val fun K_ hK_ => ?_
      go_simp
      refine (over_c (p * b.y - a.y * q) (a.x * b.y - a.y * b.x) _ (HG.out.ext hs_.1) ((HP.out.mul HB4.out.y).sub (HA4.out.y.mul HQ.out)) ((HA4.out.x.mul HB4.out.y).sub (HA4.out.y.mul HB4.out.x)) (by omega) (by omega) (by omega) H0.out).mono ?_; rintro e W9_ ⟨rfl, e9_⟩; exact hK_.out _ e9_
    refine RnL.cons (fun g7 A_ W_ hs_ => ?_) ?_
    · have q9_ := (hs_.old 9 (by kernel_rfl) : A_.tmps[9]?.getD undef = .func (.func 60) #[] #[])
      refine Rn.val fun K_ hK_ => ?_
      go_simp
      exact hK_.out _ (Ext.refl _)
    refine RnL.cons (fun g7 A_ W_ hs_ => ?_) ?_
    · have q2_ := (hs_.old 2 (by kernel_rfl) : A_.tmps[2]?.getD undef = .pointer (some ⟨w.heap.size, 0, none⟩))
      refine Rn.val fun K_ hK_ => ?_
      go_simp
      exact hK_.out _ (Ext.refl _)
    refine RnL.cons (fun g7 A_ W_ hs_ => ?_) ?_
    · have q62_ := hs_.val 15 rfl rfl rfl
      refine Rn.val fun K_ hK_ => ?_
      go_simp
      exact hK_.out _ (Ext.refl _)
    refine RnL.cons (fun g7 A_ W_ hs_ => ?_) ?_
    · have q63_ := hs_.val 16 rfl rfl rfl
      have cB0_0 := ((hs_.keep (fm2 (show w.heap.size + 1 + 1 ≠ w.heap.size from by first | omega | (simp only []; omega) | (simp; omega)) fm0) HB0_7.out.drew)).cell 0 rfl
      refine Rn.val fun K_ hK_ => ?_
      go_simp
      exact hK_.out _ (Ext.refl _)
    refine RnL.cons (fun g7 A_ W_ hs_ => ?_) ?_
    · have q2_ := (hs_.old 2 (by kernel_rfl) : A_.tmps[2]?.getD undef = .pointer (some ⟨w.heap.size, 0, none⟩))
      refine Rn.val fun K_ hK_ => ?_
      go_simp
      exact hK_.out _ (Ext.refl _)
    refine RnL.cons (fun g7 A_ W_ hs_ => ?_) ?_
    · have q65_ := hs_.val 18 rfl rfl rfl
      have cB0_2 := ((hs_.keep (fm2 (show w.heap.size + 1 + 1 ≠ w.heap.size from by first | omega | (simp only []; omega) | (simp; omega)) fm0) HB0_7.out.drew)).cell 2 rfl
      refine Rn.val fun K_ hK_ => ?_
      go_simp
      exact hK_.out _ (Ext.refl _)
    refine RnL.cons (fun g7 A_ W_ hs_ => ?_) ?_
    · have q3_ := (hs_.old 3 (by kernel_rfl) : A_.tmps[3]?.getD undef = .pointer (some ⟨w.heap.size + 1, 0, none⟩))
      refine Rn.val fun K_ hK_ => ?_
      go_simp
      exact hK_.out _ (Ext.refl _)
    refine RnL.cons (fun g7 A_ W_ hs_ => ?_) ?_
    · have q67_ := hs_.val 20 rfl rfl rfl
      refine Rn.val fun K_ hK_ => ?_
      go_simp
      exact hK_.out _ (Ext.refl _)
    refine RnL.cons (fun g7 A_ W_ hs_ => ?_) ?_
    · have q68_ := hs_.val 21 rfl rfl rfl
      have cB1_0 := ((hs_.keep (fm2 (show w.heap.size + 1 + 1 ≠ w.heap.size + 1 from by first | omega | (simp only []; omega) | (simp; omega)) fm0) HB1_7.out.drew)).cell 0 rfl
      refine Rn.val fun K_ hK_ => ?_
      go_simp
      exact hK_.out _ (Ext.refl _)
    refine RnL.cons (fun g7 A_ W_ hs_ => ?_) ?_
    · have q3_ := (hs_.old 3 (by kernel_rfl) : A_.tmps[3]?.getD undef = .pointer (some ⟨w.heap.size + 1, 0, none⟩))
      refine Rn.val fun K_ hK_ => ?_
      go_simp
      exact hK_.out _ (Ext.refl _)
    refine RnL.cons (fun g7 A_ W_ hs_ => ?_) ?_
    · have q70_ := hs_.val 23 rfl rfl rfl
      have cB1_2 := ((hs_.keep (fm2 (show w.heap.size + 1 + 1 ≠ w.heap.size + 1 from by first | omega | (simp only []; omega) | (simp; omega)) fm0) HB1_7.out.drew)).cell 2 rfl
      refine Rn.val fun K_ hK_ => ?_
      go_simp
      exact hK_.out _ (Ext.refl _)
    refine RnL.cons (fun g7 A_ W_ hs_ => ?_) ?_
    · have q61_ := hs_.val 14 rfl rfl rfl
      have q64_ := hs_.val 17 rfl rfl rfl
      have q66_ := hs_.val 19 rfl rfl rfl
      have q69_ := hs_.val 22 rfl rfl rfl
      have q71_ := hs_.val 24 rfl rfl rfl
      refine Rn.val fun K_ hK_ => ?_
      go_simp
      refine (true1_c a.x p b.x q _ (HG.out.ext hs_.1) HA4.out.x HP.out HB4.out.x HQ.out (by decide)).mono ?_; rintro e W9_ ⟨rfl, e9_⟩; exact hK_.out _ e9_
    refine RnL.cons (fun g7 A_ W_ hs_ => ?_) ?_
    · have q10_ := (hs_.old 10 (by kernel_rfl) : A_.tmps[10]?.getD undef = .string (qs (a.x * b.y - a.y * b.x)))
      refine Rn.val fun K_ hK_ => ?_
      go_simp
      exact hK_.out _ (Ext.refl _)
    refine RnL.cons (fun g7 A_ W_ hs_ => ?_) ?_
    · have q72_ := hs_.val 25 rfl rfl rfl
      have q73_ := hs_.val 26 rfl rfl rfl
      refine Rn.val fun K_ hK_ => ?_
      go_simp
      refine (over_c (a.x * q - p * b.x) (a.x * b.y - a.y * b.x) _ (HG.out.ext hs_.1) ((HA4.out.x.mul HQ.out).sub (HP.out.mul HB4.out.x)) ((HA4.out.x.mul HB4.out.y).sub (HA4.out.y.mul HB4.out.x)) (by omega) (by omega) (by omega) H0.out).mono ?_; rintro e W9_ ⟨rfl, e9_⟩; exact hK_.out _ e9_
    refine RnL.cons (fun g7 A_ W_ hs_ => ?_) ?_
    · have q60_ := hs_.val 13 rfl rfl rfl
      have q74_ := hs_.val 27 rfl rfl rfl
      refine Rn.val fun K_ hK_ => ?_
      go_simp
      exact hK_.out _ (Ext.refl _)
    refine RnL.cons (fun g7 A_ W_ hs_ => ?_) ?_
    · have q75_ := hs_.val 28 rfl rfl rfl
      refine Rn.val fun K_ hK_ => ?_
      go_simp
      refine (adir_t1 ((p * b.y - a.y * q) / (a.x * b.y - a.y * b.x)) ((a.x * q - p * b.x) / (a.x * b.y - a.y * b.x)) _ (HG.out.ext hs_.1) ((((HP.out.mul HB4.out.y).sub (HA4.out.y.mul HQ.out)).div ((HA4.out.x.mul HB4.out.y).sub (HA4.out.y.mul HB4.out.x)) (by decide)).mono (by decide)) ((((HA4.out.x.mul HQ.out).sub (HP.out.mul HB4.out.x)).div ((HA4.out.x.mul HB4.out.y).sub (HA4.out.y.mul HB4.out.x)) (by decide)).mono (by decide))).mono ?_; rintro e W9_ ⟨rfl, e9_⟩; exact hK_.out _ e9_
    refine RnL.cons (fun g7 A_ W_ hs_ => ?_) ?_
    · have q76_ := hs_.val 29 rfl rfl rfl
      refine Rn.val fun K_ hK_ => ?_
      go_simp
      exact hK_.out _ (Ext.refl _)
    refine RnL.cons (fun g7 A_ W_ hs_ => ?_) ?_
    · have q76_ := hs_.val 29 rfl rfl rfl
      refine Rn.val fun K_ hK_ => ?_
      go_simp
      exact hK_.out _ (Ext.refl _)
    refine RnL.cons (fun g7 A_ W_ hs_ => ?_) ?_
    · have q4_ := (hs_.old 4 (by kernel_rfl) : A_.tmps[4]?.getD undef = .pointer (some ⟨w.heap.size + 1 + 1, 0, none⟩))
      have q77_ := hs_.val 30 rfl rfl rfl
      refine Rn.st (n := 0) rfl fun hB0 K_ hK_ => ?_
      have hB : Blk W_ (w.heap.size + 1 + 1) #[.string ⟨#[]⟩, .string ⟨#[]⟩, .string ⟨#[]⟩] 37 := hB0; clear hB0
      have c_0 := hB.cell 0 rfl; have f_0 := hB.free 0
      have c_1 := hB.cell 1 rfl; have f_1 := hB.free 1
      have c_2 := hB.cell 2 rfl; have f_2 := hB.free 2
      have HB := Lib.hid hB; clear hB
      go_simp
      exact hK_.out _ ((((Only.refl _ _).set 0 _).set 1 _).set 2 _) (((HB.out.set 0 _).set 1 _).set 2 _)
    refine RnL.cons (fun g7 A_ W_ hs_ => ?_) ?_
    · have q78_ := hs_.val 31 rfl rfl rfl
      refine Rn.val fun K_ hK_ => ?_
      go_simp
      exact hK_.out _ (Ext.refl _)
    exact RnL.nil
  simp only [fs, Kd.value, puts, Act.put, List.setIfInBounds_toArray, List.set_cons_zero, List.set_cons_succ]
  have HX8 : Hid (Ext w w8) := Lib.hid hx_
  have HB2_8 : Hid (Blk w8 (w.heap.size + 1 + 1) #[.string (qs ((p * b.y - a.y * q) / (a.x * b.y - a.y * b.x))), .string (qs ((a.x * q - p * b.x) / (a.x * b.y - a.y * b.x))), .string ⟨#[49]⟩] 37) := Lib.hid (hb_ 0 _ rfl)
  clear hx_ hm_ hne_ hk_ hb_
  go_wp2_with fail
  have gB2_0 := HB2_8.out.cell 0 rfl
  have gB2_1 := HB2_8.out.cell 1 rfl
  have gB2_2 := HB2_8.out.cell 2 rfl
  refine bodyPost_ret (v := .tuple #[.agg #[.string (qs ((p * b.y - a.y * q) / (a.x * b.y - a.y * b.x))), .string (qs ((a.x * q - p * b.x) / (a.x * b.y - a.y * b.x))), .string ⟨#[49]⟩], .int .i64 0]) (by simp [results, Tryz.results32, go_sem, gB2_0, gB2_1, gB2_2]) rfl ⟨rfl, HX8.out⟩
end Go.Proofs.YtplimbgaoengfaaGreatDoor

namespace Go.Proofs.YtplimbgaoengfaaGreatDoor
open Go Go.RowKit
theorem fall_a {a b : P2} {p q : Rat} (hd : a.x * b.y - a.y * b.x ≠ 0) : (p * b.y - a.y * q) / (a.x * b.y - a.y * b.x) * a.x + (a.x * q - p * b.x) / (a.x * b.y - a.y * b.x) * a.y = p := by grind
theorem fall_b {a b : P2} {p q : Rat} (hd : a.x * b.y - a.y * b.x ≠ 0) : (p * b.y - a.y * q) / (a.x * b.y - a.y * b.x) * b.x + (a.x * q - p * b.x) / (a.x * b.y - a.y * b.x) * b.y = q := by grind
end Go.Proofs.YtplimbgaoengfaaGreatDoor
