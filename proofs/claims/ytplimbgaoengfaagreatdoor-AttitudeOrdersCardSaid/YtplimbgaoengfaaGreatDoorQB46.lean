/- Part 46 of the proof: Sgn, N8. -/
import Derived.Test.YtplimbgaoengfaaGreatDoorQB1
import Derived.Test.YtplimbgaoengfaaGreatDoorQB2
import Derived.Test.YtplimbgaoengfaaGreatDoorQB3
import Derived.Test.YtplimbgaoengfaaGreatDoorQB4
import Derived.Test.YtplimbgaoengfaaGreatDoorQB5
import Derived.Test.YtplimbgaoengfaaGreatDoorQB6
import Derived.Test.YtplimbgaoengfaaGreatDoorQB7
import Derived.Test.YtplimbgaoengfaaGreatDoorQB8
import Derived.Test.YtplimbgaoengfaaGreatDoorQB9
import Derived.Test.YtplimbgaoengfaaGreatDoorQB10
import Derived.Test.YtplimbgaoengfaaGreatDoorQB11
import Derived.Test.YtplimbgaoengfaaGreatDoorQB12
import Derived.Test.YtplimbgaoengfaaGreatDoorQB13
import Derived.Test.YtplimbgaoengfaaGreatDoorQB14
import Derived.Test.YtplimbgaoengfaaGreatDoorQB15
import Derived.Test.YtplimbgaoengfaaGreatDoorQB16
import Derived.Test.YtplimbgaoengfaaGreatDoorQB17
import Derived.Test.YtplimbgaoengfaaGreatDoorQB18
import Derived.Test.YtplimbgaoengfaaGreatDoorQB19
import Derived.Test.YtplimbgaoengfaaGreatDoorQB20
import Derived.Test.YtplimbgaoengfaaGreatDoorQB21
import Derived.Test.YtplimbgaoengfaaGreatDoorQB22
import Derived.Test.YtplimbgaoengfaaGreatDoorQB23
import Derived.Test.YtplimbgaoengfaaGreatDoorQB24
import Derived.Test.YtplimbgaoengfaaGreatDoorQB25
import Derived.Test.YtplimbgaoengfaaGreatDoorQB26
import Derived.Test.YtplimbgaoengfaaGreatDoorQB27
import Derived.Test.YtplimbgaoengfaaGreatDoorQB44
import Derived.Test.YtplimbgaoengfaaGreatDoorQB45
namespace Go.Proofs.YtplimbgaoengfaaGreatDoor
open Go Go.RowKit
theorem sgn_of_neg {q : Rat} (h : q < 0) : q.num.sign = -1 := Int.sign_eq_neg_one_of_neg (rnum_neg.2 h)
theorem qcmp_swap (p q : Rat) : qcmp q p = 0 - qcmp p q := by
  unfold qcmp
  by_cases h1 : q < p
  · rw [if_pos h1, if_neg (by grind), if_neg (by grind)]; decide
  · by_cases h2 : q = p
    · subst h2; rw [if_neg Rat.lt_irrefl, if_pos rfl]; decide
    · rw [if_neg h1, if_neg h2, if_pos (by grind)]; decide
theorem cls5 (q : Rat) : (q.num.sign = -1 ∧ qcmp q 1 = -1) ∨ (q.num.sign = 0 ∧ qcmp q 1 = -1) ∨ (q.num.sign = 1 ∧ qcmp q 1 = -1) ∨ (q.num.sign = 1 ∧ qcmp q 1 = 0) ∨ (q.num.sign = 1 ∧ qcmp q 1 = 1) := by
  unfold qcmp
  by_cases h0 : q < 0
  · left; exact ⟨sgn_of_neg h0, if_pos (by grind)⟩
  · by_cases h1 : q = 0
    · right; left; subst h1; exact ⟨rfl, if_pos (by decide)⟩
    · have h2 : 0 < q := by grind
      by_cases h3 : q < 1
      · right; right; left; exact ⟨sgn_of_pos h2, if_pos h3⟩
      · by_cases h4 : q = 1
        · right; right; right; left; exact ⟨sgn_of_pos h2, by rw [if_neg h3, if_pos h4]⟩
        · right; right; right; right; exact ⟨sgn_of_pos h2, by rw [if_neg h3, if_neg h4]⟩
end Go.Proofs.YtplimbgaoengfaaGreatDoor

namespace Go.Proofs.YtplimbgaoengfaaGreatDoor
open Go Go.RowKit
set_option linter.unusedVariables false
theorem rcompare1_c (q : Rat) (w : World) (g : Gd w) (hq : QB 200 q) : Calls Tryz.prog 33 #[.string (qs q), .string ⟨#[49]⟩] w (Ret w (.int .i64 (qcmp q 1))) := by
  have h := rcompare_c q 1 w g hq (⟨by decide, by decide⟩ : QB 1 1) (by decide) (by decide)
  rwa [qs_one] at h
theorem sizes1 {s : ByteArray} (h : s.size ≤ 1000000) : ∀ (i : Nat) (hi : i < [s].length), ([s][i]).size ≤ 1000000 := fun i hi => by
  have : i = 0 := by simp at hi; exact hi
  subst this; exact h
theorem all1 {s : ByteArray} {b : Bool} (h : rq s = b) : [s].all rq = b := by rw [List.all_cons, h]; simp
def cbad (p l h : Int) : Bool := if p = 0 then decide (l < 0) || decide (0 ≤ h) else decide (l ≤ 0) || decide (0 < h)
inductive CErr (o : Int) (t : ByteArray) : Int → Prop
  | low (h : o < 0) : CErr o t 3
  | high (h0 : ¬ o < 0) (h7 : 7 < o) : CErr o t 3
  | num (h0 : ¬ o < 0) (h7 : ¬ 7 < o) (ht : t.size ≤ 1000000) (hr : rq t = false) : CErr o t 2
  | val (h0 : ¬ o < 0) (h7 : ¬ 7 < o) (q : Rat) (ht : t = qs q) (hq : QB 200 q) : CErr o t (if cbad (o.tmod 2) q.num.sign (qcmp q 1) then 3 else 0)
theorem cerr_ex (o : Int) {t : ByteArray} (ht : t.size ≤ 1000000) : ∃ e, CErr o t e := by
  by_cases h0 : o < 0
  · exact ⟨_, .low h0⟩
  · by_cases h7 : 7 < o
    · exact ⟨_, .high h0 h7⟩
    · cases hr : rq t with
      | false => exact ⟨_, .num h0 h7 ht hr⟩
      | true => obtain ⟨q, hq, hb⟩ := right_q hr; exact ⟨_, .val h0 h7 q hq hb⟩
theorem par2 {o : Int} (h : ¬ o < 0) : o.tmod 2 = 0 ∨ o.tmod 2 = 1 := by
  have := Int.tmod_eq_emod_of_nonneg (a := o) (b := 2) (by omega)
  omega

set_option maxRecDepth 100000 in
set_option maxHeartbeats 2000000 in
theorem aright_low (o : Int) (t : ByteArray) (w : World) (g : Gd w) (h0 : o < 0) : Calls Tryz.prog 67 #[.agg #[.int .i64 o, .string t]] w (Ret w (.int .i64 3)) := by
  have HG := Lib.hid g
  clear g
  have h0_d : decide (o < 0) = true := decide_eq_true h0
  go_enter Tryz.func67, Tryz.ntmps67
  go_wp2
  go_ret
  exact ⟨rfl, ((Ext.refl w).alloc _)⟩

set_option maxRecDepth 100000 in
set_option maxHeartbeats 2000000 in
theorem aright_high (o : Int) (t : ByteArray) (w : World) (g : Gd w) (h0 : ¬ o < 0) (h7 : 7 < o) : Calls Tryz.prog 67 #[.agg #[.int .i64 o, .string t]] w (Ret w (.int .i64 3)) := by
  have HG := Lib.hid g
  clear g
  have h0_d : decide (o < 0) = false := decide_eq_false h0
  have h7_d : decide (7 < o) = true := decide_eq_true h7
  go_enter Tryz.func67, Tryz.ntmps67
  go_wp2
  go_ret
  exact ⟨rfl, ((Ext.refl w).alloc _)⟩

set_option maxRecDepth 100000 in
set_option maxHeartbeats 2000000 in
theorem aright_num (o : Int) (t : ByteArray) (w : World) (g : Gd w) (h0 : ¬ o < 0) (h7 : ¬ 7 < o) (ht : t.size ≤ 1000000) (hr : rq t = false) : Calls Tryz.prog 67 #[.agg #[.int .i64 o, .string t]] w (Ret w (.int .i64 2)) := by
  have HT := Lib.hid ht
  have HR := Lib.hid hr
  have HG := Lib.hid g
  clear ht hr g
  have h0_d : decide (o < 0) = false := decide_eq_false h0
  have h7_d : decide (7 < o) = false := decide_eq_false h7
  clear h0 h7
  go_enter Tryz.func67, Tryz.ntmps67
  go_wp2_with fail
  refine (rcheck_not t _ (HG.out.ext ((Ext.refl w).alloc _)) HT.out HR.out).mono ?_; rintro e w1 ⟨rfl, e1⟩
  have HX1 : Hid (Ext w w1) := Lib.hid (((Ext.refl w).alloc _).trans e1)
  clear e1
  go_wp2
  go_ret
  exact ⟨rfl, HX1.out⟩

set_option maxRecDepth 100000 in
set_option maxHeartbeats 2000000 in
theorem aright_00 (o : Int) (q : Rat) (w : World) (g : Gd w) (h0 : ¬ o < 0) (h7 : ¬ 7 < o) (hp : o.tmod 2 = 0) (hq : QB 200 q) (hl : q.num.sign = -1) (hh : qcmp q 1 = -1) : Calls Tryz.prog 67 #[.agg #[.int .i64 o, .string (qs q)]] w (Ret w (.int .i64 3)) := by
  have HQ := Lib.hid hq
  have HL := Lib.hid hl
  have HH := Lib.hid hh
  have HG := Lib.hid g
  clear hq hl hh g
  have h0_d : decide (o < 0) = false := decide_eq_false h0
  have h7_d : decide (7 < o) = false := decide_eq_false h7
  clear h0 h7
  go_enter Tryz.func67, Tryz.ntmps67
  go_wp2_with fail
  refine (rcheck_yes (qs q) _ (HG.out.ext ((Ext.refl w).alloc _)) (HQ.out.len (by decide)) (rq_qs HQ.out)).mono ?_; rintro e w1 ⟨rfl, e1⟩
  have HX1 : Hid (Ext w w1) := Lib.hid (((Ext.refl w).alloc _).trans e1)
  have HB0_1 : Hid (Blk w1 (w.heap.size) #[.int .i64 o, .string (qs q)] 28) := Lib.hid (Blk.ext (Blk.new' (w := _) (cs := #[.int .i64 o, .string (qs q)]) (t := 28) (by first | rfl | (simp only [World.size_alloc]; done) | (simp only [World.size_alloc]; omega) | simp)) e1)
  have HGEB0 : Hid (w.heap.size ≤ w.heap.size) := Lib.hid (by first | omega | (simp only []; omega) | (simp; omega))
  clear e1
  go_wp2_with fail
  refine wp_name (fun W => Ext w W ∧ Blk W (w.heap.size) #[.int .i64 o, .string (qs q)] 28) ⟨HX1.out, HB0_1.out⟩ ?_
  rintro w2 ⟨e2, bB0_2⟩
  have HX2 := Lib.hid e2; have HB0_2 := Lib.hid bB0_2
  clear e2 bB0_2
  refine region_lin [.val (.pointer (some ⟨w.heap.size, 1, none⟩)), .val (.string (qs q)), .val (.int .i64 (-1)), .val (.pointer (some ⟨w.heap.size, 1, none⟩)), .val (.string (qs q)), .val (.int .i64 (-1)), .val (.int .i64 (-1)), .val (.int .i64 (-1))] (by kernel_rfl) (by kernel_rfl) (by kernel_rfl) ?_ (fun g2 w3 hx_ hm_ hne_ => ?_)
  · skip
    refine RnL.cons (fun g2 A_ W_ hs_ => ?_) ?_
    · have q1_ := (hs_.old 1 (by kernel_rfl) : A_.tmps[1]?.getD undef = .pointer (some ⟨w.heap.size, 0, none⟩))
      refine Rn.val fun K_ hK_ => ?_
      go_simp
      exact hK_.out _ (Ext.refl _)
    refine RnL.cons (fun g2 A_ W_ hs_ => ?_) ?_
    · have q17_ := hs_.val 0 rfl rfl rfl
      have cB0_1 := ((HB0_2.out.drew.ext hs_.1)).cell 1 rfl
      refine Rn.val fun K_ hK_ => ?_
      go_simp
      exact hK_.out _ (Ext.refl _)
    refine RnL.cons (fun g2 A_ W_ hs_ => ?_) ?_
    · have q18_ := hs_.val 1 rfl rfl rfl
      refine Rn.val fun K_ hK_ => ?_
      go_simp
      refine ((HL.out ▸ rsign_c q _)).mono ?_; rintro e _ ⟨rfl, rfl⟩; exact hK_.out _ (Ext.refl _)
    refine RnL.cons (fun g2 A_ W_ hs_ => ?_) ?_
    · have q1_ := (hs_.old 1 (by kernel_rfl) : A_.tmps[1]?.getD undef = .pointer (some ⟨w.heap.size, 0, none⟩))
      refine Rn.val fun K_ hK_ => ?_
      go_simp
      exact hK_.out _ (Ext.refl _)
    refine RnL.cons (fun g2 A_ W_ hs_ => ?_) ?_
    · have q20_ := hs_.val 3 rfl rfl rfl
      have cB0_1 := ((HB0_2.out.drew.ext hs_.1)).cell 1 rfl
      refine Rn.val fun K_ hK_ => ?_
      go_simp
      exact hK_.out _ (Ext.refl _)
    refine RnL.cons (fun g2 A_ W_ hs_ => ?_) ?_
    · have q21_ := hs_.val 4 rfl rfl rfl
      refine Rn.val fun K_ hK_ => ?_
      go_simp
      refine ((HH.out ▸ rcompare1_c q _ (HG.out.ext (HX2.out.drew.trans hs_.1)) HQ.out)).mono ?_; rintro e W9_ ⟨rfl, e9_⟩; exact hK_.out _ e9_
    refine RnL.cons (fun g2 A_ W_ hs_ => ?_) ?_
    · have q19_ := hs_.val 2 rfl rfl rfl
      refine Rn.val fun K_ hK_ => ?_
      go_simp
      exact hK_.out _ (Ext.refl _)
    refine RnL.cons (fun g2 A_ W_ hs_ => ?_) ?_
    · have q22_ := hs_.val 5 rfl rfl rfl
      refine Rn.val fun K_ hK_ => ?_
      go_simp
      exact hK_.out _ (Ext.refl _)
    exact RnL.nil
  simp only [fs, Kd.value, puts, Act.put, List.setIfInBounds_toArray, List.set_cons_zero, List.set_cons_succ]
  have HX3 : Hid (Ext w w3) := Lib.hid (HX2.out.drew.trans hx_)
  have HB0_3 := Lib.hid (HB0_2.out.drew.ext hx_)
  clear hx_ hm_ hne_
  have c0_0 := HB0_3.out.cell 0 rfl
  go_wp2
  go_ret
  exact ⟨rfl, HX3.out⟩

set_option maxRecDepth 100000 in
set_option maxHeartbeats 2000000 in
theorem aright_01 (o : Int) (q : Rat) (w : World) (g : Gd w) (h0 : ¬ o < 0) (h7 : ¬ 7 < o) (hp : o.tmod 2 = 0) (hq : QB 200 q) (hl : q.num.sign = 0) (hh : qcmp q 1 = -1) : Calls Tryz.prog 67 #[.agg #[.int .i64 o, .string (qs q)]] w (Ret w (.int .i64 0)) := by
  have HQ := Lib.hid hq
  have HL := Lib.hid hl
  have HH := Lib.hid hh
  have HG := Lib.hid g
  clear hq hl hh g
  have h0_d : decide (o < 0) = false := decide_eq_false h0
  have h7_d : decide (7 < o) = false := decide_eq_false h7
  clear h0 h7
  go_enter Tryz.func67, Tryz.ntmps67
  go_wp2_with fail
  refine (rcheck_yes (qs q) _ (HG.out.ext ((Ext.refl w).alloc _)) (HQ.out.len (by decide)) (rq_qs HQ.out)).mono ?_; rintro e w1 ⟨rfl, e1⟩
  have HX1 : Hid (Ext w w1) := Lib.hid (((Ext.refl w).alloc _).trans e1)
  have HB0_1 : Hid (Blk w1 (w.heap.size) #[.int .i64 o, .string (qs q)] 28) := Lib.hid (Blk.ext (Blk.new' (w := _) (cs := #[.int .i64 o, .string (qs q)]) (t := 28) (by first | rfl | (simp only [World.size_alloc]; done) | (simp only [World.size_alloc]; omega) | simp)) e1)
  have HGEB0 : Hid (w.heap.size ≤ w.heap.size) := Lib.hid (by first | omega | (simp only []; omega) | (simp; omega))
  clear e1
  go_wp2_with fail
  refine wp_name (fun W => Ext w W ∧ Blk W (w.heap.size) #[.int .i64 o, .string (qs q)] 28) ⟨HX1.out, HB0_1.out⟩ ?_
  rintro w2 ⟨e2, bB0_2⟩
  have HX2 := Lib.hid e2; have HB0_2 := Lib.hid bB0_2
  clear e2 bB0_2
  refine region_lin [.val (.pointer (some ⟨w.heap.size, 1, none⟩)), .val (.string (qs q)), .val (.int .i64 0), .val (.pointer (some ⟨w.heap.size, 1, none⟩)), .val (.string (qs q)), .val (.int .i64 (-1)), .val (.int .i64 0), .val (.int .i64 (-1))] (by kernel_rfl) (by kernel_rfl) (by kernel_rfl) ?_ (fun g2 w3 hx_ hm_ hne_ => ?_)
  · skip
    refine RnL.cons (fun g2 A_ W_ hs_ => ?_) ?_
    · have q1_ := (hs_.old 1 (by kernel_rfl) : A_.tmps[1]?.getD undef = .pointer (some ⟨w.heap.size, 0, none⟩))
      refine Rn.val fun K_ hK_ => ?_
      go_simp
      exact hK_.out _ (Ext.refl _)
    refine RnL.cons (fun g2 A_ W_ hs_ => ?_) ?_
    · have q17_ := hs_.val 0 rfl rfl rfl
      have cB0_1 := ((HB0_2.out.drew.ext hs_.1)).cell 1 rfl
      refine Rn.val fun K_ hK_ => ?_
      go_simp
      exact hK_.out _ (Ext.refl _)
    refine RnL.cons (fun g2 A_ W_ hs_ => ?_) ?_
    · have q18_ := hs_.val 1 rfl rfl rfl
      refine Rn.val fun K_ hK_ => ?_
      go_simp
      refine ((HL.out ▸ rsign_c q _)).mono ?_; rintro e _ ⟨rfl, rfl⟩; exact hK_.out _ (Ext.refl _)
    refine RnL.cons (fun g2 A_ W_ hs_ => ?_) ?_
    · have q1_ := (hs_.old 1 (by kernel_rfl) : A_.tmps[1]?.getD undef = .pointer (some ⟨w.heap.size, 0, none⟩))
      refine Rn.val fun K_ hK_ => ?_
      go_simp
      exact hK_.out _ (Ext.refl _)
    refine RnL.cons (fun g2 A_ W_ hs_ => ?_) ?_
    · have q20_ := hs_.val 3 rfl rfl rfl
      have cB0_1 := ((HB0_2.out.drew.ext hs_.1)).cell 1 rfl
      refine Rn.val fun K_ hK_ => ?_
      go_simp
      exact hK_.out _ (Ext.refl _)
    refine RnL.cons (fun g2 A_ W_ hs_ => ?_) ?_
    · have q21_ := hs_.val 4 rfl rfl rfl
      refine Rn.val fun K_ hK_ => ?_
      go_simp
      refine ((HH.out ▸ rcompare1_c q _ (HG.out.ext (HX2.out.drew.trans hs_.1)) HQ.out)).mono ?_; rintro e W9_ ⟨rfl, e9_⟩; exact hK_.out _ e9_
    refine RnL.cons (fun g2 A_ W_ hs_ => ?_) ?_
    · have q19_ := hs_.val 2 rfl rfl rfl
      refine Rn.val fun K_ hK_ => ?_
      go_simp
      exact hK_.out _ (Ext.refl _)
    refine RnL.cons (fun g2 A_ W_ hs_ => ?_) ?_
    · have q22_ := hs_.val 5 rfl rfl rfl
      refine Rn.val fun K_ hK_ => ?_
      go_simp
      exact hK_.out _ (Ext.refl _)
    exact RnL.nil
  simp only [fs, Kd.value, puts, Act.put, List.setIfInBounds_toArray, List.set_cons_zero, List.set_cons_succ]
  have HX3 : Hid (Ext w w3) := Lib.hid (HX2.out.drew.trans hx_)
  have HB0_3 := Lib.hid (HB0_2.out.drew.ext hx_)
  clear hx_ hm_ hne_
  have c0_0 := HB0_3.out.cell 0 rfl
  go_wp2
  go_ret
  exact ⟨rfl, HX3.out⟩

set_option maxRecDepth 100000 in
set_option maxHeartbeats 2000000 in
theorem aright_02 (o : Int) (q : Rat) (w : World) (g : Gd w) (h0 : ¬ o < 0) (h7 : ¬ 7 < o) (hp : o.tmod 2 = 0) (hq : QB 200 q) (hl : q.num.sign = 1) (hh : qcmp q 1 = -1) : Calls Tryz.prog 67 #[.agg #[.int .i64 o, .string (qs q)]] w (Ret w (.int .i64 0)) := by
  have HQ := Lib.hid hq
  have HL := Lib.hid hl
  have HH := Lib.hid hh
  have HG := Lib.hid g
  clear hq hl hh g
  have h0_d : decide (o < 0) = false := decide_eq_false h0
  have h7_d : decide (7 < o) = false := decide_eq_false h7
  clear h0 h7
  go_enter Tryz.func67, Tryz.ntmps67
  go_wp2_with fail
  refine (rcheck_yes (qs q) _ (HG.out.ext ((Ext.refl w).alloc _)) (HQ.out.len (by decide)) (rq_qs HQ.out)).mono ?_; rintro e w1 ⟨rfl, e1⟩
  have HX1 : Hid (Ext w w1) := Lib.hid (((Ext.refl w).alloc _).trans e1)
  have HB0_1 : Hid (Blk w1 (w.heap.size) #[.int .i64 o, .string (qs q)] 28) := Lib.hid (Blk.ext (Blk.new' (w := _) (cs := #[.int .i64 o, .string (qs q)]) (t := 28) (by first | rfl | (simp only [World.size_alloc]; done) | (simp only [World.size_alloc]; omega) | simp)) e1)
  have HGEB0 : Hid (w.heap.size ≤ w.heap.size) := Lib.hid (by first | omega | (simp only []; omega) | (simp; omega))
  clear e1
  go_wp2_with fail
  refine wp_name (fun W => Ext w W ∧ Blk W (w.heap.size) #[.int .i64 o, .string (qs q)] 28) ⟨HX1.out, HB0_1.out⟩ ?_
  rintro w2 ⟨e2, bB0_2⟩
  have HX2 := Lib.hid e2; have HB0_2 := Lib.hid bB0_2
  clear e2 bB0_2
  refine region_lin [.val (.pointer (some ⟨w.heap.size, 1, none⟩)), .val (.string (qs q)), .val (.int .i64 1), .val (.pointer (some ⟨w.heap.size, 1, none⟩)), .val (.string (qs q)), .val (.int .i64 (-1)), .val (.int .i64 1), .val (.int .i64 (-1))] (by kernel_rfl) (by kernel_rfl) (by kernel_rfl) ?_ (fun g2 w3 hx_ hm_ hne_ => ?_)
  · skip
    refine RnL.cons (fun g2 A_ W_ hs_ => ?_) ?_
    · have q1_ := (hs_.old 1 (by kernel_rfl) : A_.tmps[1]?.getD undef = .pointer (some ⟨w.heap.size, 0, none⟩))
      refine Rn.val fun K_ hK_ => ?_
      go_simp
      exact hK_.out _ (Ext.refl _)
    refine RnL.cons (fun g2 A_ W_ hs_ => ?_) ?_
    · have q17_ := hs_.val 0 rfl rfl rfl
      have cB0_1 := ((HB0_2.out.drew.ext hs_.1)).cell 1 rfl
      refine Rn.val fun K_ hK_ => ?_
      go_simp
      exact hK_.out _ (Ext.refl _)
    refine RnL.cons (fun g2 A_ W_ hs_ => ?_) ?_
    · have q18_ := hs_.val 1 rfl rfl rfl
      refine Rn.val fun K_ hK_ => ?_
      go_simp
      refine ((HL.out ▸ rsign_c q _)).mono ?_; rintro e _ ⟨rfl, rfl⟩; exact hK_.out _ (Ext.refl _)
    refine RnL.cons (fun g2 A_ W_ hs_ => ?_) ?_
    · have q1_ := (hs_.old 1 (by kernel_rfl) : A_.tmps[1]?.getD undef = .pointer (some ⟨w.heap.size, 0, none⟩))
      refine Rn.val fun K_ hK_ => ?_
      go_simp
      exact hK_.out _ (Ext.refl _)
    refine RnL.cons (fun g2 A_ W_ hs_ => ?_) ?_
    · have q20_ := hs_.val 3 rfl rfl rfl
      have cB0_1 := ((HB0_2.out.drew.ext hs_.1)).cell 1 rfl
      refine Rn.val fun K_ hK_ => ?_
      go_simp
      exact hK_.out _ (Ext.refl _)
    refine RnL.cons (fun g2 A_ W_ hs_ => ?_) ?_
    · have q21_ := hs_.val 4 rfl rfl rfl
      refine Rn.val fun K_ hK_ => ?_
      go_simp
      refine ((HH.out ▸ rcompare1_c q _ (HG.out.ext (HX2.out.drew.trans hs_.1)) HQ.out)).mono ?_; rintro e W9_ ⟨rfl, e9_⟩; exact hK_.out _ e9_
    refine RnL.cons (fun g2 A_ W_ hs_ => ?_) ?_
    · have q19_ := hs_.val 2 rfl rfl rfl
      refine Rn.val fun K_ hK_ => ?_
      go_simp
      exact hK_.out _ (Ext.refl _)
    refine RnL.cons (fun g2 A_ W_ hs_ => ?_) ?_
    · have q22_ := hs_.val 5 rfl rfl rfl
      refine Rn.val fun K_ hK_ => ?_
      go_simp
      exact hK_.out _ (Ext.refl _)
    exact RnL.nil
  simp only [fs, Kd.value, puts, Act.put, List.setIfInBounds_toArray, List.set_cons_zero, List.set_cons_succ]
  have HX3 : Hid (Ext w w3) := Lib.hid (HX2.out.drew.trans hx_)
  have HB0_3 := Lib.hid (HB0_2.out.drew.ext hx_)
  clear hx_ hm_ hne_
  have c0_0 := HB0_3.out.cell 0 rfl
  go_wp2
  go_ret
  exact ⟨rfl, HX3.out⟩

set_option maxRecDepth 100000 in
set_option maxHeartbeats 2000000 in
theorem aright_03 (o : Int) (q : Rat) (w : World) (g : Gd w) (h0 : ¬ o < 0) (h7 : ¬ 7 < o) (hp : o.tmod 2 = 0) (hq : QB 200 q) (hl : q.num.sign = 1) (hh : qcmp q 1 = 0) : Calls Tryz.prog 67 #[.agg #[.int .i64 o, .string (qs q)]] w (Ret w (.int .i64 3)) := by
  have HQ := Lib.hid hq
  have HL := Lib.hid hl
  have HH := Lib.hid hh
  have HG := Lib.hid g
  clear hq hl hh g
  have h0_d : decide (o < 0) = false := decide_eq_false h0
  have h7_d : decide (7 < o) = false := decide_eq_false h7
  clear h0 h7
  go_enter Tryz.func67, Tryz.ntmps67
  go_wp2_with fail
  refine (rcheck_yes (qs q) _ (HG.out.ext ((Ext.refl w).alloc _)) (HQ.out.len (by decide)) (rq_qs HQ.out)).mono ?_; rintro e w1 ⟨rfl, e1⟩
  have HX1 : Hid (Ext w w1) := Lib.hid (((Ext.refl w).alloc _).trans e1)
  have HB0_1 : Hid (Blk w1 (w.heap.size) #[.int .i64 o, .string (qs q)] 28) := Lib.hid (Blk.ext (Blk.new' (w := _) (cs := #[.int .i64 o, .string (qs q)]) (t := 28) (by first | rfl | (simp only [World.size_alloc]; done) | (simp only [World.size_alloc]; omega) | simp)) e1)
  have HGEB0 : Hid (w.heap.size ≤ w.heap.size) := Lib.hid (by first | omega | (simp only []; omega) | (simp; omega))
  clear e1
  go_wp2_with fail
  refine wp_name (fun W => Ext w W ∧ Blk W (w.heap.size) #[.int .i64 o, .string (qs q)] 28) ⟨HX1.out, HB0_1.out⟩ ?_
  rintro w2 ⟨e2, bB0_2⟩
  have HX2 := Lib.hid e2; have HB0_2 := Lib.hid bB0_2
  clear e2 bB0_2
  refine region_lin [.val (.pointer (some ⟨w.heap.size, 1, none⟩)), .val (.string (qs q)), .val (.int .i64 1), .val (.pointer (some ⟨w.heap.size, 1, none⟩)), .val (.string (qs q)), .val (.int .i64 0), .val (.int .i64 1), .val (.int .i64 0)] (by kernel_rfl) (by kernel_rfl) (by kernel_rfl) ?_ (fun g2 w3 hx_ hm_ hne_ => ?_)
  · skip
    refine RnL.cons (fun g2 A_ W_ hs_ => ?_) ?_
    · have q1_ := (hs_.old 1 (by kernel_rfl) : A_.tmps[1]?.getD undef = .pointer (some ⟨w.heap.size, 0, none⟩))
      refine Rn.val fun K_ hK_ => ?_
      go_simp
      exact hK_.out _ (Ext.refl _)
    refine RnL.cons (fun g2 A_ W_ hs_ => ?_) ?_
    · have q17_ := hs_.val 0 rfl rfl rfl
      have cB0_1 := ((HB0_2.out.drew.ext hs_.1)).cell 1 rfl
      refine Rn.val fun K_ hK_ => ?_
      go_simp
      exact hK_.out _ (Ext.refl _)
    refine RnL.cons (fun g2 A_ W_ hs_ => ?_) ?_
    · have q18_ := hs_.val 1 rfl rfl rfl
      refine Rn.val fun K_ hK_ => ?_
      go_simp
      refine ((HL.out ▸ rsign_c q _)).mono ?_; rintro e _ ⟨rfl, rfl⟩; exact hK_.out _ (Ext.refl _)
    refine RnL.cons (fun g2 A_ W_ hs_ => ?_) ?_
    · have q1_ := (hs_.old 1 (by kernel_rfl) : A_.tmps[1]?.getD undef = .pointer (some ⟨w.heap.size, 0, none⟩))
      refine Rn.val fun K_ hK_ => ?_
      go_simp
      exact hK_.out _ (Ext.refl _)
    refine RnL.cons (fun g2 A_ W_ hs_ => ?_) ?_
    · have q20_ := hs_.val 3 rfl rfl rfl
      have cB0_1 := ((HB0_2.out.drew.ext hs_.1)).cell 1 rfl
      refine Rn.val fun K_ hK_ => ?_
      go_simp
      exact hK_.out _ (Ext.refl _)
    refine RnL.cons (fun g2 A_ W_ hs_ => ?_) ?_
    · have q21_ := hs_.val 4 rfl rfl rfl
      refine Rn.val fun K_ hK_ => ?_
      go_simp
      refine ((HH.out ▸ rcompare1_c q _ (HG.out.ext (HX2.out.drew.trans hs_.1)) HQ.out)).mono ?_; rintro e W9_ ⟨rfl, e9_⟩; exact hK_.out _ e9_
    refine RnL.cons (fun g2 A_ W_ hs_ => ?_) ?_
    · have q19_ := hs_.val 2 rfl rfl rfl
      refine Rn.val fun K_ hK_ => ?_
      go_simp
      exact hK_.out _ (Ext.refl _)
    refine RnL.cons (fun g2 A_ W_ hs_ => ?_) ?_
    · have q22_ := hs_.val 5 rfl rfl rfl
      refine Rn.val fun K_ hK_ => ?_
      go_simp
      exact hK_.out _ (Ext.refl _)
    exact RnL.nil
  simp only [fs, Kd.value, puts, Act.put, List.setIfInBounds_toArray, List.set_cons_zero, List.set_cons_succ]
  have HX3 : Hid (Ext w w3) := Lib.hid (HX2.out.drew.trans hx_)
  have HB0_3 := Lib.hid (HB0_2.out.drew.ext hx_)
  clear hx_ hm_ hne_
  have c0_0 := HB0_3.out.cell 0 rfl
  go_wp2
  go_ret
  exact ⟨rfl, HX3.out⟩

set_option maxRecDepth 100000 in
set_option maxHeartbeats 2000000 in
theorem aright_04 (o : Int) (q : Rat) (w : World) (g : Gd w) (h0 : ¬ o < 0) (h7 : ¬ 7 < o) (hp : o.tmod 2 = 0) (hq : QB 200 q) (hl : q.num.sign = 1) (hh : qcmp q 1 = 1) : Calls Tryz.prog 67 #[.agg #[.int .i64 o, .string (qs q)]] w (Ret w (.int .i64 3)) := by
  have HQ := Lib.hid hq
  have HL := Lib.hid hl
  have HH := Lib.hid hh
  have HG := Lib.hid g
  clear hq hl hh g
  have h0_d : decide (o < 0) = false := decide_eq_false h0
  have h7_d : decide (7 < o) = false := decide_eq_false h7
  clear h0 h7
  go_enter Tryz.func67, Tryz.ntmps67
  go_wp2_with fail
  refine (rcheck_yes (qs q) _ (HG.out.ext ((Ext.refl w).alloc _)) (HQ.out.len (by decide)) (rq_qs HQ.out)).mono ?_; rintro e w1 ⟨rfl, e1⟩
  have HX1 : Hid (Ext w w1) := Lib.hid (((Ext.refl w).alloc _).trans e1)
  have HB0_1 : Hid (Blk w1 (w.heap.size) #[.int .i64 o, .string (qs q)] 28) := Lib.hid (Blk.ext (Blk.new' (w := _) (cs := #[.int .i64 o, .string (qs q)]) (t := 28) (by first | rfl | (simp only [World.size_alloc]; done) | (simp only [World.size_alloc]; omega) | simp)) e1)
  have HGEB0 : Hid (w.heap.size ≤ w.heap.size) := Lib.hid (by first | omega | (simp only []; omega) | (simp; omega))
  clear e1
  go_wp2_with fail
  refine wp_name (fun W => Ext w W ∧ Blk W (w.heap.size) #[.int .i64 o, .string (qs q)] 28) ⟨HX1.out, HB0_1.out⟩ ?_
  rintro w2 ⟨e2, bB0_2⟩
  have HX2 := Lib.hid e2; have HB0_2 := Lib.hid bB0_2
  clear e2 bB0_2
  refine region_lin [.val (.pointer (some ⟨w.heap.size, 1, none⟩)), .val (.string (qs q)), .val (.int .i64 1), .val (.pointer (some ⟨w.heap.size, 1, none⟩)), .val (.string (qs q)), .val (.int .i64 1), .val (.int .i64 1), .val (.int .i64 1)] (by kernel_rfl) (by kernel_rfl) (by kernel_rfl) ?_ (fun g2 w3 hx_ hm_ hne_ => ?_)
  · skip
    refine RnL.cons (fun g2 A_ W_ hs_ => ?_) ?_
    · have q1_ := (hs_.old 1 (by kernel_rfl) : A_.tmps[1]?.getD undef = .pointer (some ⟨w.heap.size, 0, none⟩))
      refine Rn.val fun K_ hK_ => ?_
      go_simp
      exact hK_.out _ (Ext.refl _)
    refine RnL.cons (fun g2 A_ W_ hs_ => ?_) ?_
    · have q17_ := hs_.val 0 rfl rfl rfl
      have cB0_1 := ((HB0_2.out.drew.ext hs_.1)).cell 1 rfl
      refine Rn.val fun K_ hK_ => ?_
      go_simp
      exact hK_.out _ (Ext.refl _)
    refine RnL.cons (fun g2 A_ W_ hs_ => ?_) ?_
    · have q18_ := hs_.val 1 rfl rfl rfl
      refine Rn.val fun K_ hK_ => ?_
      go_simp
      refine ((HL.out ▸ rsign_c q _)).mono ?_; rintro e _ ⟨rfl, rfl⟩; exact hK_.out _ (Ext.refl _)
    refine RnL.cons (fun g2 A_ W_ hs_ => ?_) ?_
    · have q1_ := (hs_.old 1 (by kernel_rfl) : A_.tmps[1]?.getD undef = .pointer (some ⟨w.heap.size, 0, none⟩))
      refine Rn.val fun K_ hK_ => ?_
      go_simp
      exact hK_.out _ (Ext.refl _)
    refine RnL.cons (fun g2 A_ W_ hs_ => ?_) ?_
    · have q20_ := hs_.val 3 rfl rfl rfl
      have cB0_1 := ((HB0_2.out.drew.ext hs_.1)).cell 1 rfl
      refine Rn.val fun K_ hK_ => ?_
      go_simp
      exact hK_.out _ (Ext.refl _)
    refine RnL.cons (fun g2 A_ W_ hs_ => ?_) ?_
    · have q21_ := hs_.val 4 rfl rfl rfl
      refine Rn.val fun K_ hK_ => ?_
      go_simp
      refine ((HH.out ▸ rcompare1_c q _ (HG.out.ext (HX2.out.drew.trans hs_.1)) HQ.out)).mono ?_; rintro e W9_ ⟨rfl, e9_⟩; exact hK_.out _ e9_
    refine RnL.cons (fun g2 A_ W_ hs_ => ?_) ?_
    · have q19_ := hs_.val 2 rfl rfl rfl
      refine Rn.val fun K_ hK_ => ?_
      go_simp
      exact hK_.out _ (Ext.refl _)
    refine RnL.cons (fun g2 A_ W_ hs_ => ?_) ?_
    · have q22_ := hs_.val 5 rfl rfl rfl
      refine Rn.val fun K_ hK_ => ?_
      go_simp
      exact hK_.out _ (Ext.refl _)
    exact RnL.nil
  simp only [fs, Kd.value, puts, Act.put, List.setIfInBounds_toArray, List.set_cons_zero, List.set_cons_succ]
  have HX3 : Hid (Ext w w3) := Lib.hid (HX2.out.drew.trans hx_)
  have HB0_3 := Lib.hid (HB0_2.out.drew.ext hx_)
  clear hx_ hm_ hne_
  have c0_0 := HB0_3.out.cell 0 rfl
  go_wp2
  go_ret
  exact ⟨rfl, HX3.out⟩

set_option maxRecDepth 100000 in
set_option maxHeartbeats 2000000 in
theorem aright_10 (o : Int) (q : Rat) (w : World) (g : Gd w) (h0 : ¬ o < 0) (h7 : ¬ 7 < o) (hp : o.tmod 2 = 1) (hq : QB 200 q) (hl : q.num.sign = -1) (hh : qcmp q 1 = -1) : Calls Tryz.prog 67 #[.agg #[.int .i64 o, .string (qs q)]] w (Ret w (.int .i64 3)) := by
  have HQ := Lib.hid hq
  have HL := Lib.hid hl
  have HH := Lib.hid hh
  have HG := Lib.hid g
  clear hq hl hh g
  have h0_d : decide (o < 0) = false := decide_eq_false h0
  have h7_d : decide (7 < o) = false := decide_eq_false h7
  clear h0 h7
  go_enter Tryz.func67, Tryz.ntmps67
  go_wp2_with fail
  refine (rcheck_yes (qs q) _ (HG.out.ext ((Ext.refl w).alloc _)) (HQ.out.len (by decide)) (rq_qs HQ.out)).mono ?_; rintro e w1 ⟨rfl, e1⟩
  have HX1 : Hid (Ext w w1) := Lib.hid (((Ext.refl w).alloc _).trans e1)
  have HB0_1 : Hid (Blk w1 (w.heap.size) #[.int .i64 o, .string (qs q)] 28) := Lib.hid (Blk.ext (Blk.new' (w := _) (cs := #[.int .i64 o, .string (qs q)]) (t := 28) (by first | rfl | (simp only [World.size_alloc]; done) | (simp only [World.size_alloc]; omega) | simp)) e1)
  have HGEB0 : Hid (w.heap.size ≤ w.heap.size) := Lib.hid (by first | omega | (simp only []; omega) | (simp; omega))
  clear e1
  go_wp2_with fail
  refine wp_name (fun W => Ext w W ∧ Blk W (w.heap.size) #[.int .i64 o, .string (qs q)] 28) ⟨HX1.out, HB0_1.out⟩ ?_
  rintro w2 ⟨e2, bB0_2⟩
  have HX2 := Lib.hid e2; have HB0_2 := Lib.hid bB0_2
  clear e2 bB0_2
  refine region_lin [.val (.pointer (some ⟨w.heap.size, 1, none⟩)), .val (.string (qs q)), .val (.int .i64 (-1)), .val (.pointer (some ⟨w.heap.size, 1, none⟩)), .val (.string (qs q)), .val (.int .i64 (-1)), .val (.int .i64 (-1)), .val (.int .i64 (-1))] (by kernel_rfl) (by kernel_rfl) (by kernel_rfl) ?_ (fun g2 w3 hx_ hm_ hne_ => ?_)
  · skip
    refine RnL.cons (fun g2 A_ W_ hs_ => ?_) ?_
    · have q1_ := (hs_.old 1 (by kernel_rfl) : A_.tmps[1]?.getD undef = .pointer (some ⟨w.heap.size, 0, none⟩))
      refine Rn.val fun K_ hK_ => ?_
      go_simp
      exact hK_.out _ (Ext.refl _)
    refine RnL.cons (fun g2 A_ W_ hs_ => ?_) ?_
    · have q17_ := hs_.val 0 rfl rfl rfl
      have cB0_1 := ((HB0_2.out.drew.ext hs_.1)).cell 1 rfl
      refine Rn.val fun K_ hK_ => ?_
      go_simp
      exact hK_.out _ (Ext.refl _)
    refine RnL.cons (fun g2 A_ W_ hs_ => ?_) ?_
    · have q18_ := hs_.val 1 rfl rfl rfl
      refine Rn.val fun K_ hK_ => ?_
      go_simp
      refine ((HL.out ▸ rsign_c q _)).mono ?_; rintro e _ ⟨rfl, rfl⟩; exact hK_.out _ (Ext.refl _)
    refine RnL.cons (fun g2 A_ W_ hs_ => ?_) ?_
    · have q1_ := (hs_.old 1 (by kernel_rfl) : A_.tmps[1]?.getD undef = .pointer (some ⟨w.heap.size, 0, none⟩))
      refine Rn.val fun K_ hK_ => ?_
      go_simp
      exact hK_.out _ (Ext.refl _)
    refine RnL.cons (fun g2 A_ W_ hs_ => ?_) ?_
    · have q20_ := hs_.val 3 rfl rfl rfl
      have cB0_1 := ((HB0_2.out.drew.ext hs_.1)).cell 1 rfl
      refine Rn.val fun K_ hK_ => ?_
      go_simp
      exact hK_.out _ (Ext.refl _)
    refine RnL.cons (fun g2 A_ W_ hs_ => ?_) ?_
    · have q21_ := hs_.val 4 rfl rfl rfl
      refine Rn.val fun K_ hK_ => ?_
      go_simp
      refine ((HH.out ▸ rcompare1_c q _ (HG.out.ext (HX2.out.drew.trans hs_.1)) HQ.out)).mono ?_; rintro e W9_ ⟨rfl, e9_⟩; exact hK_.out _ e9_
    refine RnL.cons (fun g2 A_ W_ hs_ => ?_) ?_
    · have q19_ := hs_.val 2 rfl rfl rfl
      refine Rn.val fun K_ hK_ => ?_
      go_simp
      exact hK_.out _ (Ext.refl _)
    refine RnL.cons (fun g2 A_ W_ hs_ => ?_) ?_
    · have q22_ := hs_.val 5 rfl rfl rfl
      refine Rn.val fun K_ hK_ => ?_
      go_simp
      exact hK_.out _ (Ext.refl _)
    exact RnL.nil
  simp only [fs, Kd.value, puts, Act.put, List.setIfInBounds_toArray, List.set_cons_zero, List.set_cons_succ]
  have HX3 : Hid (Ext w w3) := Lib.hid (HX2.out.drew.trans hx_)
  have HB0_3 := Lib.hid (HB0_2.out.drew.ext hx_)
  clear hx_ hm_ hne_
  have c0_0 := HB0_3.out.cell 0 rfl
  go_wp2
  go_ret
  exact ⟨rfl, HX3.out⟩

set_option maxRecDepth 100000 in
set_option maxHeartbeats 2000000 in
theorem aright_11 (o : Int) (q : Rat) (w : World) (g : Gd w) (h0 : ¬ o < 0) (h7 : ¬ 7 < o) (hp : o.tmod 2 = 1) (hq : QB 200 q) (hl : q.num.sign = 0) (hh : qcmp q 1 = -1) : Calls Tryz.prog 67 #[.agg #[.int .i64 o, .string (qs q)]] w (Ret w (.int .i64 3)) := by
  have HQ := Lib.hid hq
  have HL := Lib.hid hl
  have HH := Lib.hid hh
  have HG := Lib.hid g
  clear hq hl hh g
  have h0_d : decide (o < 0) = false := decide_eq_false h0
  have h7_d : decide (7 < o) = false := decide_eq_false h7
  clear h0 h7
  go_enter Tryz.func67, Tryz.ntmps67
  go_wp2_with fail
  refine (rcheck_yes (qs q) _ (HG.out.ext ((Ext.refl w).alloc _)) (HQ.out.len (by decide)) (rq_qs HQ.out)).mono ?_; rintro e w1 ⟨rfl, e1⟩
  have HX1 : Hid (Ext w w1) := Lib.hid (((Ext.refl w).alloc _).trans e1)
  have HB0_1 : Hid (Blk w1 (w.heap.size) #[.int .i64 o, .string (qs q)] 28) := Lib.hid (Blk.ext (Blk.new' (w := _) (cs := #[.int .i64 o, .string (qs q)]) (t := 28) (by first | rfl | (simp only [World.size_alloc]; done) | (simp only [World.size_alloc]; omega) | simp)) e1)
  have HGEB0 : Hid (w.heap.size ≤ w.heap.size) := Lib.hid (by first | omega | (simp only []; omega) | (simp; omega))
  clear e1
  go_wp2_with fail
  refine wp_name (fun W => Ext w W ∧ Blk W (w.heap.size) #[.int .i64 o, .string (qs q)] 28) ⟨HX1.out, HB0_1.out⟩ ?_
  rintro w2 ⟨e2, bB0_2⟩
  have HX2 := Lib.hid e2; have HB0_2 := Lib.hid bB0_2
  clear e2 bB0_2
  refine region_lin [.val (.pointer (some ⟨w.heap.size, 1, none⟩)), .val (.string (qs q)), .val (.int .i64 0), .val (.pointer (some ⟨w.heap.size, 1, none⟩)), .val (.string (qs q)), .val (.int .i64 (-1)), .val (.int .i64 0), .val (.int .i64 (-1))] (by kernel_rfl) (by kernel_rfl) (by kernel_rfl) ?_ (fun g2 w3 hx_ hm_ hne_ => ?_)
  · skip
    refine RnL.cons (fun g2 A_ W_ hs_ => ?_) ?_
    · have q1_ := (hs_.old 1 (by kernel_rfl) : A_.tmps[1]?.getD undef = .pointer (some ⟨w.heap.size, 0, none⟩))
      refine Rn.val fun K_ hK_ => ?_
      go_simp
      exact hK_.out _ (Ext.refl _)
    refine RnL.cons (fun g2 A_ W_ hs_ => ?_) ?_
    · have q17_ := hs_.val 0 rfl rfl rfl
      have cB0_1 := ((HB0_2.out.drew.ext hs_.1)).cell 1 rfl
      refine Rn.val fun K_ hK_ => ?_
      go_simp
      exact hK_.out _ (Ext.refl _)
    refine RnL.cons (fun g2 A_ W_ hs_ => ?_) ?_
    · have q18_ := hs_.val 1 rfl rfl rfl
      refine Rn.val fun K_ hK_ => ?_
      go_simp
      refine ((HL.out ▸ rsign_c q _)).mono ?_; rintro e _ ⟨rfl, rfl⟩; exact hK_.out _ (Ext.refl _)
    refine RnL.cons (fun g2 A_ W_ hs_ => ?_) ?_
    · have q1_ := (hs_.old 1 (by kernel_rfl) : A_.tmps[1]?.getD undef = .pointer (some ⟨w.heap.size, 0, none⟩))
      refine Rn.val fun K_ hK_ => ?_
      go_simp
      exact hK_.out _ (Ext.refl _)
    refine RnL.cons (fun g2 A_ W_ hs_ => ?_) ?_
    · have q20_ := hs_.val 3 rfl rfl rfl
      have cB0_1 := ((HB0_2.out.drew.ext hs_.1)).cell 1 rfl
      refine Rn.val fun K_ hK_ => ?_
      go_simp
      exact hK_.out _ (Ext.refl _)
    refine RnL.cons (fun g2 A_ W_ hs_ => ?_) ?_
    · have q21_ := hs_.val 4 rfl rfl rfl
      refine Rn.val fun K_ hK_ => ?_
      go_simp
      refine ((HH.out ▸ rcompare1_c q _ (HG.out.ext (HX2.out.drew.trans hs_.1)) HQ.out)).mono ?_; rintro e W9_ ⟨rfl, e9_⟩; exact hK_.out _ e9_
    refine RnL.cons (fun g2 A_ W_ hs_ => ?_) ?_
    · have q19_ := hs_.val 2 rfl rfl rfl
      refine Rn.val fun K_ hK_ => ?_
      go_simp
      exact hK_.out _ (Ext.refl _)
    refine RnL.cons (fun g2 A_ W_ hs_ => ?_) ?_
    · have q22_ := hs_.val 5 rfl rfl rfl
      refine Rn.val fun K_ hK_ => ?_
      go_simp
      exact hK_.out _ (Ext.refl _)
    exact RnL.nil
  simp only [fs, Kd.value, puts, Act.put, List.setIfInBounds_toArray, List.set_cons_zero, List.set_cons_succ]
  have HX3 : Hid (Ext w w3) := Lib.hid (HX2.out.drew.trans hx_)
  have HB0_3 := Lib.hid (HB0_2.out.drew.ext hx_)
  clear hx_ hm_ hne_
  have c0_0 := HB0_3.out.cell 0 rfl
  go_wp2
  go_ret
  exact ⟨rfl, HX3.out⟩

set_option maxRecDepth 100000 in
set_option maxHeartbeats 2000000 in
theorem aright_12 (o : Int) (q : Rat) (w : World) (g : Gd w) (h0 : ¬ o < 0) (h7 : ¬ 7 < o) (hp : o.tmod 2 = 1) (hq : QB 200 q) (hl : q.num.sign = 1) (hh : qcmp q 1 = -1) : Calls Tryz.prog 67 #[.agg #[.int .i64 o, .string (qs q)]] w (Ret w (.int .i64 0)) := by
  have HQ := Lib.hid hq
  have HL := Lib.hid hl
  have HH := Lib.hid hh
  have HG := Lib.hid g
  clear hq hl hh g
  have h0_d : decide (o < 0) = false := decide_eq_false h0
  have h7_d : decide (7 < o) = false := decide_eq_false h7
  clear h0 h7
  go_enter Tryz.func67, Tryz.ntmps67
  go_wp2_with fail
  refine (rcheck_yes (qs q) _ (HG.out.ext ((Ext.refl w).alloc _)) (HQ.out.len (by decide)) (rq_qs HQ.out)).mono ?_; rintro e w1 ⟨rfl, e1⟩
  have HX1 : Hid (Ext w w1) := Lib.hid (((Ext.refl w).alloc _).trans e1)
  have HB0_1 : Hid (Blk w1 (w.heap.size) #[.int .i64 o, .string (qs q)] 28) := Lib.hid (Blk.ext (Blk.new' (w := _) (cs := #[.int .i64 o, .string (qs q)]) (t := 28) (by first | rfl | (simp only [World.size_alloc]; done) | (simp only [World.size_alloc]; omega) | simp)) e1)
  have HGEB0 : Hid (w.heap.size ≤ w.heap.size) := Lib.hid (by first | omega | (simp only []; omega) | (simp; omega))
  clear e1
  go_wp2_with fail
  refine wp_name (fun W => Ext w W ∧ Blk W (w.heap.size) #[.int .i64 o, .string (qs q)] 28) ⟨HX1.out, HB0_1.out⟩ ?_
  rintro w2 ⟨e2, bB0_2⟩
  have HX2 := Lib.hid e2; have HB0_2 := Lib.hid bB0_2
  clear e2 bB0_2
  refine region_lin [.val (.pointer (some ⟨w.heap.size, 1, none⟩)), .val (.string (qs q)), .val (.int .i64 1), .val (.pointer (some ⟨w.heap.size, 1, none⟩)), .val (.string (qs q)), .val (.int .i64 (-1)), .val (.int .i64 1), .val (.int .i64 (-1))] (by kernel_rfl) (by kernel_rfl) (by kernel_rfl) ?_ (fun g2 w3 hx_ hm_ hne_ => ?_)
  · skip
    refine RnL.cons (fun g2 A_ W_ hs_ => ?_) ?_
    · have q1_ := (hs_.old 1 (by kernel_rfl) : A_.tmps[1]?.getD undef = .pointer (some ⟨w.heap.size, 0, none⟩))
      refine Rn.val fun K_ hK_ => ?_
      go_simp
      exact hK_.out _ (Ext.refl _)
    refine RnL.cons (fun g2 A_ W_ hs_ => ?_) ?_
    · have q17_ := hs_.val 0 rfl rfl rfl
      have cB0_1 := ((HB0_2.out.drew.ext hs_.1)).cell 1 rfl
      refine Rn.val fun K_ hK_ => ?_
      go_simp
      exact hK_.out _ (Ext.refl _)
    refine RnL.cons (fun g2 A_ W_ hs_ => ?_) ?_
    · have q18_ := hs_.val 1 rfl rfl rfl
      refine Rn.val fun K_ hK_ => ?_
      go_simp
      refine ((HL.out ▸ rsign_c q _)).mono ?_; rintro e _ ⟨rfl, rfl⟩; exact hK_.out _ (Ext.refl _)
    refine RnL.cons (fun g2 A_ W_ hs_ => ?_) ?_
    · have q1_ := (hs_.old 1 (by kernel_rfl) : A_.tmps[1]?.getD undef = .pointer (some ⟨w.heap.size, 0, none⟩))
      refine Rn.val fun K_ hK_ => ?_
      go_simp
      exact hK_.out _ (Ext.refl _)
    refine RnL.cons (fun g2 A_ W_ hs_ => ?_) ?_
    · have q20_ := hs_.val 3 rfl rfl rfl
      have cB0_1 := ((HB0_2.out.drew.ext hs_.1)).cell 1 rfl
      refine Rn.val fun K_ hK_ => ?_
      go_simp
      exact hK_.out _ (Ext.refl _)
    refine RnL.cons (fun g2 A_ W_ hs_ => ?_) ?_
    · have q21_ := hs_.val 4 rfl rfl rfl
      refine Rn.val fun K_ hK_ => ?_
      go_simp
      refine ((HH.out ▸ rcompare1_c q _ (HG.out.ext (HX2.out.drew.trans hs_.1)) HQ.out)).mono ?_; rintro e W9_ ⟨rfl, e9_⟩; exact hK_.out _ e9_
    refine RnL.cons (fun g2 A_ W_ hs_ => ?_) ?_
    · have q19_ := hs_.val 2 rfl rfl rfl
      refine Rn.val fun K_ hK_ => ?_
      go_simp
      exact hK_.out _ (Ext.refl _)
    refine RnL.cons (fun g2 A_ W_ hs_ => ?_) ?_
    · have q22_ := hs_.val 5 rfl rfl rfl
      refine Rn.val fun K_ hK_ => ?_
      go_simp
      exact hK_.out _ (Ext.refl _)
    exact RnL.nil
  simp only [fs, Kd.value, puts, Act.put, List.setIfInBounds_toArray, List.set_cons_zero, List.set_cons_succ]
  have HX3 : Hid (Ext w w3) := Lib.hid (HX2.out.drew.trans hx_)
  have HB0_3 := Lib.hid (HB0_2.out.drew.ext hx_)
  clear hx_ hm_ hne_
  have c0_0 := HB0_3.out.cell 0 rfl
  go_wp2
  go_ret
  exact ⟨rfl, HX3.out⟩

set_option maxRecDepth 100000 in
set_option maxHeartbeats 2000000 in
theorem aright_13 (o : Int) (q : Rat) (w : World) (g : Gd w) (h0 : ¬ o < 0) (h7 : ¬ 7 < o) (hp : o.tmod 2 = 1) (hq : QB 200 q) (hl : q.num.sign = 1) (hh : qcmp q 1 = 0) : Calls Tryz.prog 67 #[.agg #[.int .i64 o, .string (qs q)]] w (Ret w (.int .i64 0)) := by
  have HQ := Lib.hid hq
  have HL := Lib.hid hl
  have HH := Lib.hid hh
  have HG := Lib.hid g
  clear hq hl hh g
  have h0_d : decide (o < 0) = false := decide_eq_false h0
  have h7_d : decide (7 < o) = false := decide_eq_false h7
  clear h0 h7
  go_enter Tryz.func67, Tryz.ntmps67
  go_wp2_with fail
  refine (rcheck_yes (qs q) _ (HG.out.ext ((Ext.refl w).alloc _)) (HQ.out.len (by decide)) (rq_qs HQ.out)).mono ?_; rintro e w1 ⟨rfl, e1⟩
  have HX1 : Hid (Ext w w1) := Lib.hid (((Ext.refl w).alloc _).trans e1)
  have HB0_1 : Hid (Blk w1 (w.heap.size) #[.int .i64 o, .string (qs q)] 28) := Lib.hid (Blk.ext (Blk.new' (w := _) (cs := #[.int .i64 o, .string (qs q)]) (t := 28) (by first | rfl | (simp only [World.size_alloc]; done) | (simp only [World.size_alloc]; omega) | simp)) e1)
  have HGEB0 : Hid (w.heap.size ≤ w.heap.size) := Lib.hid (by first | omega | (simp only []; omega) | (simp; omega))
  clear e1
  go_wp2_with fail
  refine wp_name (fun W => Ext w W ∧ Blk W (w.heap.size) #[.int .i64 o, .string (qs q)] 28) ⟨HX1.out, HB0_1.out⟩ ?_
  rintro w2 ⟨e2, bB0_2⟩
  have HX2 := Lib.hid e2; have HB0_2 := Lib.hid bB0_2
  clear e2 bB0_2
  refine region_lin [.val (.pointer (some ⟨w.heap.size, 1, none⟩)), .val (.string (qs q)), .val (.int .i64 1), .val (.pointer (some ⟨w.heap.size, 1, none⟩)), .val (.string (qs q)), .val (.int .i64 0), .val (.int .i64 1), .val (.int .i64 0)] (by kernel_rfl) (by kernel_rfl) (by kernel_rfl) ?_ (fun g2 w3 hx_ hm_ hne_ => ?_)
  · skip
    refine RnL.cons (fun g2 A_ W_ hs_ => ?_) ?_
    · have q1_ := (hs_.old 1 (by kernel_rfl) : A_.tmps[1]?.getD undef = .pointer (some ⟨w.heap.size, 0, none⟩))
      refine Rn.val fun K_ hK_ => ?_
      go_simp
      exact hK_.out _ (Ext.refl _)
    refine RnL.cons (fun g2 A_ W_ hs_ => ?_) ?_
    · have q17_ := hs_.val 0 rfl rfl rfl
      have cB0_1 := ((HB0_2.out.drew.ext hs_.1)).cell 1 rfl
      refine Rn.val fun K_ hK_ => ?_
      go_simp
      exact hK_.out _ (Ext.refl _)
    refine RnL.cons (fun g2 A_ W_ hs_ => ?_) ?_
    · have q18_ := hs_.val 1 rfl rfl rfl
      refine Rn.val fun K_ hK_ => ?_
      go_simp
      refine ((HL.out ▸ rsign_c q _)).mono ?_; rintro e _ ⟨rfl, rfl⟩; exact hK_.out _ (Ext.refl _)
    refine RnL.cons (fun g2 A_ W_ hs_ => ?_) ?_
    · have q1_ := (hs_.old 1 (by kernel_rfl) : A_.tmps[1]?.getD undef = .pointer (some ⟨w.heap.size, 0, none⟩))
      refine Rn.val fun K_ hK_ => ?_
      go_simp
      exact hK_.out _ (Ext.refl _)
    refine RnL.cons (fun g2 A_ W_ hs_ => ?_) ?_
    · have q20_ := hs_.val 3 rfl rfl rfl
      have cB0_1 := ((HB0_2.out.drew.ext hs_.1)).cell 1 rfl
      refine Rn.val fun K_ hK_ => ?_
      go_simp
      exact hK_.out _ (Ext.refl _)
    refine RnL.cons (fun g2 A_ W_ hs_ => ?_) ?_
    · have q21_ := hs_.val 4 rfl rfl rfl
      refine Rn.val fun K_ hK_ => ?_
      go_simp
      refine ((HH.out ▸ rcompare1_c q _ (HG.out.ext (HX2.out.drew.trans hs_.1)) HQ.out)).mono ?_; rintro e W9_ ⟨rfl, e9_⟩; exact hK_.out _ e9_
    refine RnL.cons (fun g2 A_ W_ hs_ => ?_) ?_
    · have q19_ := hs_.val 2 rfl rfl rfl
      refine Rn.val fun K_ hK_ => ?_
      go_simp
      exact hK_.out _ (Ext.refl _)
    refine RnL.cons (fun g2 A_ W_ hs_ => ?_) ?_
    · have q22_ := hs_.val 5 rfl rfl rfl
      refine Rn.val fun K_ hK_ => ?_
      go_simp
      exact hK_.out _ (Ext.refl _)
    exact RnL.nil
  simp only [fs, Kd.value, puts, Act.put, List.setIfInBounds_toArray, List.set_cons_zero, List.set_cons_succ]
  have HX3 : Hid (Ext w w3) := Lib.hid (HX2.out.drew.trans hx_)
  have HB0_3 := Lib.hid (HB0_2.out.drew.ext hx_)
  clear hx_ hm_ hne_
  have c0_0 := HB0_3.out.cell 0 rfl
  go_wp2
  go_ret
  exact ⟨rfl, HX3.out⟩

set_option maxRecDepth 100000 in
set_option maxHeartbeats 2000000 in
theorem aright_14 (o : Int) (q : Rat) (w : World) (g : Gd w) (h0 : ¬ o < 0) (h7 : ¬ 7 < o) (hp : o.tmod 2 = 1) (hq : QB 200 q) (hl : q.num.sign = 1) (hh : qcmp q 1 = 1) : Calls Tryz.prog 67 #[.agg #[.int .i64 o, .string (qs q)]] w (Ret w (.int .i64 3)) := by
  have HQ := Lib.hid hq
  have HL := Lib.hid hl
  have HH := Lib.hid hh
  have HG := Lib.hid g
  clear hq hl hh g
  have h0_d : decide (o < 0) = false := decide_eq_false h0
  have h7_d : decide (7 < o) = false := decide_eq_false h7
  clear h0 h7
  go_enter Tryz.func67, Tryz.ntmps67
  go_wp2_with fail
  refine (rcheck_yes (qs q) _ (HG.out.ext ((Ext.refl w).alloc _)) (HQ.out.len (by decide)) (rq_qs HQ.out)).mono ?_; rintro e w1 ⟨rfl, e1⟩
  have HX1 : Hid (Ext w w1) := Lib.hid (((Ext.refl w).alloc _).trans e1)
  have HB0_1 : Hid (Blk w1 (w.heap.size) #[.int .i64 o, .string (qs q)] 28) := Lib.hid (Blk.ext (Blk.new' (w := _) (cs := #[.int .i64 o, .string (qs q)]) (t := 28) (by first | rfl | (simp only [World.size_alloc]; done) | (simp only [World.size_alloc]; omega) | simp)) e1)
  have HGEB0 : Hid (w.heap.size ≤ w.heap.size) := Lib.hid (by first | omega | (simp only []; omega) | (simp; omega))
  clear e1
  go_wp2_with fail
  refine wp_name (fun W => Ext w W ∧ Blk W (w.heap.size) #[.int .i64 o, .string (qs q)] 28) ⟨HX1.out, HB0_1.out⟩ ?_
  rintro w2 ⟨e2, bB0_2⟩
  have HX2 := Lib.hid e2; have HB0_2 := Lib.hid bB0_2
  clear e2 bB0_2
  refine region_lin [.val (.pointer (some ⟨w.heap.size, 1, none⟩)), .val (.string (qs q)), .val (.int .i64 1), .val (.pointer (some ⟨w.heap.size, 1, none⟩)), .val (.string (qs q)), .val (.int .i64 1), .val (.int .i64 1), .val (.int .i64 1)] (by kernel_rfl) (by kernel_rfl) (by kernel_rfl) ?_ (fun g2 w3 hx_ hm_ hne_ => ?_)
  · skip
    refine RnL.cons (fun g2 A_ W_ hs_ => ?_) ?_
    · have q1_ := (hs_.old 1 (by kernel_rfl) : A_.tmps[1]?.getD undef = .pointer (some ⟨w.heap.size, 0, none⟩))
      refine Rn.val fun K_ hK_ => ?_
      go_simp
      exact hK_.out _ (Ext.refl _)
    refine RnL.cons (fun g2 A_ W_ hs_ => ?_) ?_
    · have q17_ := hs_.val 0 rfl rfl rfl
      have cB0_1 := ((HB0_2.out.drew.ext hs_.1)).cell 1 rfl
      refine Rn.val fun K_ hK_ => ?_
      go_simp
      exact hK_.out _ (Ext.refl _)
    refine RnL.cons (fun g2 A_ W_ hs_ => ?_) ?_
    · have q18_ := hs_.val 1 rfl rfl rfl
      refine Rn.val fun K_ hK_ => ?_
      go_simp
      refine ((HL.out ▸ rsign_c q _)).mono ?_; rintro e _ ⟨rfl, rfl⟩; exact hK_.out _ (Ext.refl _)
    refine RnL.cons (fun g2 A_ W_ hs_ => ?_) ?_
    · have q1_ := (hs_.old 1 (by kernel_rfl) : A_.tmps[1]?.getD undef = .pointer (some ⟨w.heap.size, 0, none⟩))
      refine Rn.val fun K_ hK_ => ?_
      go_simp
      exact hK_.out _ (Ext.refl _)
    refine RnL.cons (fun g2 A_ W_ hs_ => ?_) ?_
    · have q20_ := hs_.val 3 rfl rfl rfl
      have cB0_1 := ((HB0_2.out.drew.ext hs_.1)).cell 1 rfl
      refine Rn.val fun K_ hK_ => ?_
      go_simp
      exact hK_.out _ (Ext.refl _)
    refine RnL.cons (fun g2 A_ W_ hs_ => ?_) ?_
    · have q21_ := hs_.val 4 rfl rfl rfl
      refine Rn.val fun K_ hK_ => ?_
      go_simp
      refine ((HH.out ▸ rcompare1_c q _ (HG.out.ext (HX2.out.drew.trans hs_.1)) HQ.out)).mono ?_; rintro e W9_ ⟨rfl, e9_⟩; exact hK_.out _ e9_
    refine RnL.cons (fun g2 A_ W_ hs_ => ?_) ?_
    · have q19_ := hs_.val 2 rfl rfl rfl
      refine Rn.val fun K_ hK_ => ?_
      go_simp
      exact hK_.out _ (Ext.refl _)
    refine RnL.cons (fun g2 A_ W_ hs_ => ?_) ?_
    · have q22_ := hs_.val 5 rfl rfl rfl
      refine Rn.val fun K_ hK_ => ?_
      go_simp
      exact hK_.out _ (Ext.refl _)
    exact RnL.nil
  simp only [fs, Kd.value, puts, Act.put, List.setIfInBounds_toArray, List.set_cons_zero, List.set_cons_succ]
  have HX3 : Hid (Ext w w3) := Lib.hid (HX2.out.drew.trans hx_)
  have HB0_3 := Lib.hid (HB0_2.out.drew.ext hx_)
  clear hx_ hm_ hne_
  have c0_0 := HB0_3.out.cell 0 rfl
  go_wp2
  go_ret
  exact ⟨rfl, HX3.out⟩

theorem aright_c {o : Int} {t : ByteArray} {e : Int} (w : World) (g : Gd w) (h : CErr o t e) : Calls Tryz.prog 67 #[.agg #[.int .i64 o, .string t]] w (Ret w (.int .i64 e)) := by
  cases h with
  | low h => exact aright_low o t w g h
  | high h0 h7 => exact aright_high o t w g h0 h7
  | num h0 h7 ht hr => exact aright_num o t w g h0 h7 ht hr
  | val h0 h7 q ht hq =>
    subst ht
    rcases par2 h0 with hp | hp <;> rcases cls5 q with ⟨hl, hh⟩ | ⟨hl, hh⟩ | ⟨hl, hh⟩ | ⟨hl, hh⟩ | ⟨hl, hh⟩ <;> rw [hp, hl, hh]
    · exact aright_00 o q w g h0 h7 hp hq hl hh
    · exact aright_01 o q w g h0 h7 hp hq hl hh
    · exact aright_02 o q w g h0 h7 hp hq hl hh
    · exact aright_03 o q w g h0 h7 hp hq hl hh
    · exact aright_04 o q w g h0 h7 hp hq hl hh
    · exact aright_10 o q w g h0 h7 hp hq hl hh
    · exact aright_11 o q w g h0 h7 hp hq hl hh
    · exact aright_12 o q w g h0 h7 hp hq hl hh
    · exact aright_13 o q w g h0 h7 hp hq hl hh
    · exact aright_14 o q w g h0 h7 hp hq hl hh

set_option maxRecDepth 100000 in
set_option maxHeartbeats 2000000 in
theorem lcheck_low (o : Int) (t : ByteArray) (w : World) (g : Gd w) (h0 : o < 0) : Calls Tryz.prog 40 #[.agg #[.int .i64 o, .string t]] w (Ret w (.int .i64 3)) := by
  have HG := Lib.hid g
  clear g
  have h0_d : decide (o < 0) = true := decide_eq_true h0
  go_enter Tryz.func40, Tryz.ntmps40
  go_wp2
  go_ret
  exact ⟨rfl, ((Ext.refl w).alloc _)⟩

set_option maxRecDepth 100000 in
set_option maxHeartbeats 2000000 in
theorem lcheck_high (o : Int) (t : ByteArray) (w : World) (g : Gd w) (h0 : ¬ o < 0) (h7 : 7 < o) : Calls Tryz.prog 40 #[.agg #[.int .i64 o, .string t]] w (Ret w (.int .i64 3)) := by
  have HG := Lib.hid g
  clear g
  have h0_d : decide (o < 0) = false := decide_eq_false h0
  have h7_d : decide (7 < o) = true := decide_eq_true h7
  go_enter Tryz.func40, Tryz.ntmps40
  go_wp2
  go_ret
  exact ⟨rfl, ((Ext.refl w).alloc _)⟩

set_option maxRecDepth 100000 in
set_option maxHeartbeats 2000000 in
theorem lcheck_num (o : Int) (t : ByteArray) (w : World) (g : Gd w) (h0 : ¬ o < 0) (h7 : ¬ 7 < o) (ht : t.size ≤ 1000000) (hr : rq t = false) : Calls Tryz.prog 40 #[.agg #[.int .i64 o, .string t]] w (Ret w (.int .i64 2)) := by
  have HT := Lib.hid ht
  have HR := Lib.hid hr
  have HG := Lib.hid g
  clear ht hr g
  have h0_d : decide (o < 0) = false := decide_eq_false h0
  have h7_d : decide (7 < o) = false := decide_eq_false h7
  clear h0 h7
  go_enter Tryz.func40, Tryz.ntmps40
  go_wp2_with fail
  refine (right15_b [t] 1 (w.heap.size + 1) false _ (HG.out.ext (((Ext.refl w).alloc _).alloc _)) rfl (by decide) (sizes1 HT.out) (all1 HR.out) (Blk.new' (w := _) (cs := #[.string t]) (t := 22) (by first | rfl | (simp only [World.size_alloc]; done) | (simp only [World.size_alloc]; omega) | simp))).mono ?_; rintro e w1 ⟨rfl, e1⟩
  have HX1 : Hid (Ext w w1) := Lib.hid ((((Ext.refl w).alloc _).alloc _).trans e1)
  have HB1_1 : Hid (Blk w1 (w.heap.size + 1) #[.string t] 22) := Lib.hid (Blk.ext (Blk.new' (w := _) (cs := #[.string t]) (t := 22) (by first | rfl | (simp only [World.size_alloc]; done) | (simp only [World.size_alloc]; omega) | simp)) e1)
  have HGEB1 : Hid (w.heap.size ≤ w.heap.size + 1) := Lib.hid (by first | omega | (simp only []; omega) | (simp; omega))
  clear e1
  go_wp2
  go_ret
  exact ⟨rfl, HX1.out⟩

set_option maxRecDepth 100000 in
set_option maxHeartbeats 2000000 in
theorem lcheck_00 (o : Int) (q : Rat) (w : World) (g : Gd w) (h0 : ¬ o < 0) (h7 : ¬ 7 < o) (hp : o.tmod 2 = 0) (hq : QB 200 q) (hl : q.num.sign = -1) (hh : qcmp q 1 = -1) : Calls Tryz.prog 40 #[.agg #[.int .i64 o, .string (qs q)]] w (Ret w (.int .i64 3)) := by
  have HQ := Lib.hid hq
  have HL := Lib.hid hl
  have HH := Lib.hid hh
  have HG := Lib.hid g
  clear hq hl hh g
  have h0_d : decide (o < 0) = false := decide_eq_false h0
  have h7_d : decide (7 < o) = false := decide_eq_false h7
  clear h0 h7
  go_enter Tryz.func40, Tryz.ntmps40
  go_wp2_with fail
  refine (right15_b [qs q] 1 (w.heap.size + 1) true _ (HG.out.ext (((Ext.refl w).alloc _).alloc _)) rfl (by decide) (sizes1 (HQ.out.len (by decide))) (all1 (rq_qs HQ.out)) (Blk.new' (w := _) (cs := #[.string (qs q)]) (t := 22) (by first | rfl | (simp only [World.size_alloc]; done) | (simp only [World.size_alloc]; omega) | simp))).mono ?_; rintro e w1 ⟨rfl, e1⟩
  have HX1 : Hid (Ext w w1) := Lib.hid ((((Ext.refl w).alloc _).alloc _).trans e1)
  have HB0_1 : Hid (Blk w1 (w.heap.size) #[.int .i64 o, .string (qs q)] 28) := Lib.hid (Blk.ext ((Blk.new' (w := _) (cs := #[.int .i64 o, .string (qs q)]) (t := 28) (by first | rfl | (simp only [World.size_alloc]; done) | (simp only [World.size_alloc]; omega) | simp)).alloc _) e1)
  have HB1_1 : Hid (Blk w1 (w.heap.size + 1) #[.string (qs q)] 22) := Lib.hid (Blk.ext (Blk.new' (w := _) (cs := #[.string (qs q)]) (t := 22) (by first | rfl | (simp only [World.size_alloc]; done) | (simp only [World.size_alloc]; omega) | simp)) e1)
  have HGEB0 : Hid (w.heap.size ≤ w.heap.size) := Lib.hid (by first | omega | (simp only []; omega) | (simp; omega))
  have HGEB1 : Hid (w.heap.size ≤ w.heap.size + 1) := Lib.hid (by first | omega | (simp only []; omega) | (simp; omega))
  clear e1
  go_wp2_with fail
  refine wp_name (fun W => Ext w W ∧ Blk W (w.heap.size) #[.int .i64 o, .string (qs q)] 28) ⟨HX1.out, HB0_1.out⟩ ?_
  rintro w2 ⟨e2, bB0_2⟩
  have HX2 := Lib.hid e2; have HB0_2 := Lib.hid bB0_2
  clear e2 bB0_2
  refine region_lin [.val (.pointer (some ⟨w.heap.size, 1, none⟩)), .val (.string (qs q)), .val (.int .i64 (-1)), .val (.pointer (some ⟨w.heap.size, 1, none⟩)), .val (.string (qs q)), .val (.int .i64 (-1)), .val (.int .i64 (-1)), .val (.int .i64 (-1))] (by kernel_rfl) (by kernel_rfl) (by kernel_rfl) ?_ (fun g2 w3 hx_ hm_ hne_ => ?_)
  · skip
    refine RnL.cons (fun g2 A_ W_ hs_ => ?_) ?_
    · have q1_ := (hs_.old 1 (by kernel_rfl) : A_.tmps[1]?.getD undef = .pointer (some ⟨w.heap.size, 0, none⟩))
      refine Rn.val fun K_ hK_ => ?_
      go_simp
      exact hK_.out _ (Ext.refl _)
    refine RnL.cons (fun g2 A_ W_ hs_ => ?_) ?_
    · have q18_ := hs_.val 0 rfl rfl rfl
      have cB0_1 := ((HB0_2.out.drew.ext hs_.1)).cell 1 rfl
      refine Rn.val fun K_ hK_ => ?_
      go_simp
      exact hK_.out _ (Ext.refl _)
    refine RnL.cons (fun g2 A_ W_ hs_ => ?_) ?_
    · have q19_ := hs_.val 1 rfl rfl rfl
      refine Rn.val fun K_ hK_ => ?_
      go_simp
      refine ((HL.out ▸ rsign_c q _)).mono ?_; rintro e _ ⟨rfl, rfl⟩; exact hK_.out _ (Ext.refl _)
    refine RnL.cons (fun g2 A_ W_ hs_ => ?_) ?_
    · have q1_ := (hs_.old 1 (by kernel_rfl) : A_.tmps[1]?.getD undef = .pointer (some ⟨w.heap.size, 0, none⟩))
      refine Rn.val fun K_ hK_ => ?_
      go_simp
      exact hK_.out _ (Ext.refl _)
    refine RnL.cons (fun g2 A_ W_ hs_ => ?_) ?_
    · have q21_ := hs_.val 3 rfl rfl rfl
      have cB0_1 := ((HB0_2.out.drew.ext hs_.1)).cell 1 rfl
      refine Rn.val fun K_ hK_ => ?_
      go_simp
      exact hK_.out _ (Ext.refl _)
    refine RnL.cons (fun g2 A_ W_ hs_ => ?_) ?_
    · have q22_ := hs_.val 4 rfl rfl rfl
      refine Rn.val fun K_ hK_ => ?_
      go_simp
      refine ((HH.out ▸ rcompare1_c q _ (HG.out.ext (HX2.out.drew.trans hs_.1)) HQ.out)).mono ?_; rintro e W9_ ⟨rfl, e9_⟩; exact hK_.out _ e9_
    refine RnL.cons (fun g2 A_ W_ hs_ => ?_) ?_
    · have q20_ := hs_.val 2 rfl rfl rfl
      refine Rn.val fun K_ hK_ => ?_
      go_simp
      exact hK_.out _ (Ext.refl _)
    refine RnL.cons (fun g2 A_ W_ hs_ => ?_) ?_
    · have q23_ := hs_.val 5 rfl rfl rfl
      refine Rn.val fun K_ hK_ => ?_
      go_simp
      exact hK_.out _ (Ext.refl _)
    exact RnL.nil
  simp only [fs, Kd.value, puts, Act.put, List.setIfInBounds_toArray, List.set_cons_zero, List.set_cons_succ]
  have HX3 : Hid (Ext w w3) := Lib.hid (HX2.out.drew.trans hx_)
  clear hx_ hm_ hne_
  go_wp2
  go_ret
  exact ⟨rfl, HX3.out⟩

set_option maxRecDepth 100000 in
set_option maxHeartbeats 2000000 in
theorem lcheck_01 (o : Int) (q : Rat) (w : World) (g : Gd w) (h0 : ¬ o < 0) (h7 : ¬ 7 < o) (hp : o.tmod 2 = 0) (hq : QB 200 q) (hl : q.num.sign = 0) (hh : qcmp q 1 = -1) : Calls Tryz.prog 40 #[.agg #[.int .i64 o, .string (qs q)]] w (Ret w (.int .i64 0)) := by
  have HQ := Lib.hid hq
  have HL := Lib.hid hl
  have HH := Lib.hid hh
  have HG := Lib.hid g
  clear hq hl hh g
  have h0_d : decide (o < 0) = false := decide_eq_false h0
  have h7_d : decide (7 < o) = false := decide_eq_false h7
  clear h0 h7
  go_enter Tryz.func40, Tryz.ntmps40
  go_wp2_with fail
  refine (right15_b [qs q] 1 (w.heap.size + 1) true _ (HG.out.ext (((Ext.refl w).alloc _).alloc _)) rfl (by decide) (sizes1 (HQ.out.len (by decide))) (all1 (rq_qs HQ.out)) (Blk.new' (w := _) (cs := #[.string (qs q)]) (t := 22) (by first | rfl | (simp only [World.size_alloc]; done) | (simp only [World.size_alloc]; omega) | simp))).mono ?_; rintro e w1 ⟨rfl, e1⟩
  have HX1 : Hid (Ext w w1) := Lib.hid ((((Ext.refl w).alloc _).alloc _).trans e1)
  have HB0_1 : Hid (Blk w1 (w.heap.size) #[.int .i64 o, .string (qs q)] 28) := Lib.hid (Blk.ext ((Blk.new' (w := _) (cs := #[.int .i64 o, .string (qs q)]) (t := 28) (by first | rfl | (simp only [World.size_alloc]; done) | (simp only [World.size_alloc]; omega) | simp)).alloc _) e1)
  have HB1_1 : Hid (Blk w1 (w.heap.size + 1) #[.string (qs q)] 22) := Lib.hid (Blk.ext (Blk.new' (w := _) (cs := #[.string (qs q)]) (t := 22) (by first | rfl | (simp only [World.size_alloc]; done) | (simp only [World.size_alloc]; omega) | simp)) e1)
  have HGEB0 : Hid (w.heap.size ≤ w.heap.size) := Lib.hid (by first | omega | (simp only []; omega) | (simp; omega))
  have HGEB1 : Hid (w.heap.size ≤ w.heap.size + 1) := Lib.hid (by first | omega | (simp only []; omega) | (simp; omega))
  clear e1
  go_wp2_with fail
  refine wp_name (fun W => Ext w W ∧ Blk W (w.heap.size) #[.int .i64 o, .string (qs q)] 28) ⟨HX1.out, HB0_1.out⟩ ?_
  rintro w2 ⟨e2, bB0_2⟩
  have HX2 := Lib.hid e2; have HB0_2 := Lib.hid bB0_2
  clear e2 bB0_2
  refine region_lin [.val (.pointer (some ⟨w.heap.size, 1, none⟩)), .val (.string (qs q)), .val (.int .i64 0), .val (.pointer (some ⟨w.heap.size, 1, none⟩)), .val (.string (qs q)), .val (.int .i64 (-1)), .val (.int .i64 0), .val (.int .i64 (-1))] (by kernel_rfl) (by kernel_rfl) (by kernel_rfl) ?_ (fun g2 w3 hx_ hm_ hne_ => ?_)
  · skip
    refine RnL.cons (fun g2 A_ W_ hs_ => ?_) ?_
    · have q1_ := (hs_.old 1 (by kernel_rfl) : A_.tmps[1]?.getD undef = .pointer (some ⟨w.heap.size, 0, none⟩))
      refine Rn.val fun K_ hK_ => ?_
      go_simp
      exact hK_.out _ (Ext.refl _)
    refine RnL.cons (fun g2 A_ W_ hs_ => ?_) ?_
    · have q18_ := hs_.val 0 rfl rfl rfl
      have cB0_1 := ((HB0_2.out.drew.ext hs_.1)).cell 1 rfl
      refine Rn.val fun K_ hK_ => ?_
      go_simp
      exact hK_.out _ (Ext.refl _)
    refine RnL.cons (fun g2 A_ W_ hs_ => ?_) ?_
    · have q19_ := hs_.val 1 rfl rfl rfl
      refine Rn.val fun K_ hK_ => ?_
      go_simp
      refine ((HL.out ▸ rsign_c q _)).mono ?_; rintro e _ ⟨rfl, rfl⟩; exact hK_.out _ (Ext.refl _)
    refine RnL.cons (fun g2 A_ W_ hs_ => ?_) ?_
    · have q1_ := (hs_.old 1 (by kernel_rfl) : A_.tmps[1]?.getD undef = .pointer (some ⟨w.heap.size, 0, none⟩))
      refine Rn.val fun K_ hK_ => ?_
      go_simp
      exact hK_.out _ (Ext.refl _)
    refine RnL.cons (fun g2 A_ W_ hs_ => ?_) ?_
    · have q21_ := hs_.val 3 rfl rfl rfl
      have cB0_1 := ((HB0_2.out.drew.ext hs_.1)).cell 1 rfl
      refine Rn.val fun K_ hK_ => ?_
      go_simp
      exact hK_.out _ (Ext.refl _)
    refine RnL.cons (fun g2 A_ W_ hs_ => ?_) ?_
    · have q22_ := hs_.val 4 rfl rfl rfl
      refine Rn.val fun K_ hK_ => ?_
      go_simp
      refine ((HH.out ▸ rcompare1_c q _ (HG.out.ext (HX2.out.drew.trans hs_.1)) HQ.out)).mono ?_; rintro e W9_ ⟨rfl, e9_⟩; exact hK_.out _ e9_
    refine RnL.cons (fun g2 A_ W_ hs_ => ?_) ?_
    · have q20_ := hs_.val 2 rfl rfl rfl
      refine Rn.val fun K_ hK_ => ?_
      go_simp
      exact hK_.out _ (Ext.refl _)
    refine RnL.cons (fun g2 A_ W_ hs_ => ?_) ?_
    · have q23_ := hs_.val 5 rfl rfl rfl
      refine Rn.val fun K_ hK_ => ?_
      go_simp
      exact hK_.out _ (Ext.refl _)
    exact RnL.nil
  simp only [fs, Kd.value, puts, Act.put, List.setIfInBounds_toArray, List.set_cons_zero, List.set_cons_succ]
  have HX3 : Hid (Ext w w3) := Lib.hid (HX2.out.drew.trans hx_)
  have HB0_3 := Lib.hid (HB0_2.out.drew.ext hx_)
  clear hx_ hm_ hne_
  have c0_0 := HB0_3.out.cell 0 rfl
  go_wp2
  go_ret
  exact ⟨rfl, HX3.out⟩

set_option maxRecDepth 100000 in
set_option maxHeartbeats 2000000 in
theorem lcheck_02 (o : Int) (q : Rat) (w : World) (g : Gd w) (h0 : ¬ o < 0) (h7 : ¬ 7 < o) (hp : o.tmod 2 = 0) (hq : QB 200 q) (hl : q.num.sign = 1) (hh : qcmp q 1 = -1) : Calls Tryz.prog 40 #[.agg #[.int .i64 o, .string (qs q)]] w (Ret w (.int .i64 0)) := by
  have HQ := Lib.hid hq
  have HL := Lib.hid hl
  have HH := Lib.hid hh
  have HG := Lib.hid g
  clear hq hl hh g
  have h0_d : decide (o < 0) = false := decide_eq_false h0
  have h7_d : decide (7 < o) = false := decide_eq_false h7
  clear h0 h7
  go_enter Tryz.func40, Tryz.ntmps40
  go_wp2_with fail
  refine (right15_b [qs q] 1 (w.heap.size + 1) true _ (HG.out.ext (((Ext.refl w).alloc _).alloc _)) rfl (by decide) (sizes1 (HQ.out.len (by decide))) (all1 (rq_qs HQ.out)) (Blk.new' (w := _) (cs := #[.string (qs q)]) (t := 22) (by first | rfl | (simp only [World.size_alloc]; done) | (simp only [World.size_alloc]; omega) | simp))).mono ?_; rintro e w1 ⟨rfl, e1⟩
  have HX1 : Hid (Ext w w1) := Lib.hid ((((Ext.refl w).alloc _).alloc _).trans e1)
  have HB0_1 : Hid (Blk w1 (w.heap.size) #[.int .i64 o, .string (qs q)] 28) := Lib.hid (Blk.ext ((Blk.new' (w := _) (cs := #[.int .i64 o, .string (qs q)]) (t := 28) (by first | rfl | (simp only [World.size_alloc]; done) | (simp only [World.size_alloc]; omega) | simp)).alloc _) e1)
  have HB1_1 : Hid (Blk w1 (w.heap.size + 1) #[.string (qs q)] 22) := Lib.hid (Blk.ext (Blk.new' (w := _) (cs := #[.string (qs q)]) (t := 22) (by first | rfl | (simp only [World.size_alloc]; done) | (simp only [World.size_alloc]; omega) | simp)) e1)
  have HGEB0 : Hid (w.heap.size ≤ w.heap.size) := Lib.hid (by first | omega | (simp only []; omega) | (simp; omega))
  have HGEB1 : Hid (w.heap.size ≤ w.heap.size + 1) := Lib.hid (by first | omega | (simp only []; omega) | (simp; omega))
  clear e1
  go_wp2_with fail
  refine wp_name (fun W => Ext w W ∧ Blk W (w.heap.size) #[.int .i64 o, .string (qs q)] 28) ⟨HX1.out, HB0_1.out⟩ ?_
  rintro w2 ⟨e2, bB0_2⟩
  have HX2 := Lib.hid e2; have HB0_2 := Lib.hid bB0_2
  clear e2 bB0_2
  refine region_lin [.val (.pointer (some ⟨w.heap.size, 1, none⟩)), .val (.string (qs q)), .val (.int .i64 1), .val (.pointer (some ⟨w.heap.size, 1, none⟩)), .val (.string (qs q)), .val (.int .i64 (-1)), .val (.int .i64 1), .val (.int .i64 (-1))] (by kernel_rfl) (by kernel_rfl) (by kernel_rfl) ?_ (fun g2 w3 hx_ hm_ hne_ => ?_)
  · skip
    refine RnL.cons (fun g2 A_ W_ hs_ => ?_) ?_
    · have q1_ := (hs_.old 1 (by kernel_rfl) : A_.tmps[1]?.getD undef = .pointer (some ⟨w.heap.size, 0, none⟩))
      refine Rn.val fun K_ hK_ => ?_
      go_simp
      exact hK_.out _ (Ext.refl _)
    refine RnL.cons (fun g2 A_ W_ hs_ => ?_) ?_
    · have q18_ := hs_.val 0 rfl rfl rfl
      have cB0_1 := ((HB0_2.out.drew.ext hs_.1)).cell 1 rfl
      refine Rn.val fun K_ hK_ => ?_
      go_simp
      exact hK_.out _ (Ext.refl _)
    refine RnL.cons (fun g2 A_ W_ hs_ => ?_) ?_
    · have q19_ := hs_.val 1 rfl rfl rfl
      refine Rn.val fun K_ hK_ => ?_
      go_simp
      refine ((HL.out ▸ rsign_c q _)).mono ?_; rintro e _ ⟨rfl, rfl⟩; exact hK_.out _ (Ext.refl _)
    refine RnL.cons (fun g2 A_ W_ hs_ => ?_) ?_
    · have q1_ := (hs_.old 1 (by kernel_rfl) : A_.tmps[1]?.getD undef = .pointer (some ⟨w.heap.size, 0, none⟩))
      refine Rn.val fun K_ hK_ => ?_
      go_simp
      exact hK_.out _ (Ext.refl _)
    refine RnL.cons (fun g2 A_ W_ hs_ => ?_) ?_
    · have q21_ := hs_.val 3 rfl rfl rfl
      have cB0_1 := ((HB0_2.out.drew.ext hs_.1)).cell 1 rfl
      refine Rn.val fun K_ hK_ => ?_
      go_simp
      exact hK_.out _ (Ext.refl _)
    refine RnL.cons (fun g2 A_ W_ hs_ => ?_) ?_
    · have q22_ := hs_.val 4 rfl rfl rfl
      refine Rn.val fun K_ hK_ => ?_
      go_simp
      refine ((HH.out ▸ rcompare1_c q _ (HG.out.ext (HX2.out.drew.trans hs_.1)) HQ.out)).mono ?_; rintro e W9_ ⟨rfl, e9_⟩; exact hK_.out _ e9_
    refine RnL.cons (fun g2 A_ W_ hs_ => ?_) ?_
    · have q20_ := hs_.val 2 rfl rfl rfl
      refine Rn.val fun K_ hK_ => ?_
      go_simp
      exact hK_.out _ (Ext.refl _)
    refine RnL.cons (fun g2 A_ W_ hs_ => ?_) ?_
    · have q23_ := hs_.val 5 rfl rfl rfl
      refine Rn.val fun K_ hK_ => ?_
      go_simp
      exact hK_.out _ (Ext.refl _)
    exact RnL.nil
  simp only [fs, Kd.value, puts, Act.put, List.setIfInBounds_toArray, List.set_cons_zero, List.set_cons_succ]
  have HX3 : Hid (Ext w w3) := Lib.hid (HX2.out.drew.trans hx_)
  have HB0_3 := Lib.hid (HB0_2.out.drew.ext hx_)
  clear hx_ hm_ hne_
  have c0_0 := HB0_3.out.cell 0 rfl
  go_wp2
  go_ret
  exact ⟨rfl, HX3.out⟩

set_option maxRecDepth 100000 in
set_option maxHeartbeats 2000000 in
theorem lcheck_03 (o : Int) (q : Rat) (w : World) (g : Gd w) (h0 : ¬ o < 0) (h7 : ¬ 7 < o) (hp : o.tmod 2 = 0) (hq : QB 200 q) (hl : q.num.sign = 1) (hh : qcmp q 1 = 0) : Calls Tryz.prog 40 #[.agg #[.int .i64 o, .string (qs q)]] w (Ret w (.int .i64 3)) := by
  have HQ := Lib.hid hq
  have HL := Lib.hid hl
  have HH := Lib.hid hh
  have HG := Lib.hid g
  clear hq hl hh g
  have h0_d : decide (o < 0) = false := decide_eq_false h0
  have h7_d : decide (7 < o) = false := decide_eq_false h7
  clear h0 h7
  go_enter Tryz.func40, Tryz.ntmps40
  go_wp2_with fail
  refine (right15_b [qs q] 1 (w.heap.size + 1) true _ (HG.out.ext (((Ext.refl w).alloc _).alloc _)) rfl (by decide) (sizes1 (HQ.out.len (by decide))) (all1 (rq_qs HQ.out)) (Blk.new' (w := _) (cs := #[.string (qs q)]) (t := 22) (by first | rfl | (simp only [World.size_alloc]; done) | (simp only [World.size_alloc]; omega) | simp))).mono ?_; rintro e w1 ⟨rfl, e1⟩
  have HX1 : Hid (Ext w w1) := Lib.hid ((((Ext.refl w).alloc _).alloc _).trans e1)
  have HB0_1 : Hid (Blk w1 (w.heap.size) #[.int .i64 o, .string (qs q)] 28) := Lib.hid (Blk.ext ((Blk.new' (w := _) (cs := #[.int .i64 o, .string (qs q)]) (t := 28) (by first | rfl | (simp only [World.size_alloc]; done) | (simp only [World.size_alloc]; omega) | simp)).alloc _) e1)
  have HB1_1 : Hid (Blk w1 (w.heap.size + 1) #[.string (qs q)] 22) := Lib.hid (Blk.ext (Blk.new' (w := _) (cs := #[.string (qs q)]) (t := 22) (by first | rfl | (simp only [World.size_alloc]; done) | (simp only [World.size_alloc]; omega) | simp)) e1)
  have HGEB0 : Hid (w.heap.size ≤ w.heap.size) := Lib.hid (by first | omega | (simp only []; omega) | (simp; omega))
  have HGEB1 : Hid (w.heap.size ≤ w.heap.size + 1) := Lib.hid (by first | omega | (simp only []; omega) | (simp; omega))
  clear e1
  go_wp2_with fail
  refine wp_name (fun W => Ext w W ∧ Blk W (w.heap.size) #[.int .i64 o, .string (qs q)] 28) ⟨HX1.out, HB0_1.out⟩ ?_
  rintro w2 ⟨e2, bB0_2⟩
  have HX2 := Lib.hid e2; have HB0_2 := Lib.hid bB0_2
  clear e2 bB0_2
  refine region_lin [.val (.pointer (some ⟨w.heap.size, 1, none⟩)), .val (.string (qs q)), .val (.int .i64 1), .val (.pointer (some ⟨w.heap.size, 1, none⟩)), .val (.string (qs q)), .val (.int .i64 0), .val (.int .i64 1), .val (.int .i64 0)] (by kernel_rfl) (by kernel_rfl) (by kernel_rfl) ?_ (fun g2 w3 hx_ hm_ hne_ => ?_)
  · skip
    refine RnL.cons (fun g2 A_ W_ hs_ => ?_) ?_
    · have q1_ := (hs_.old 1 (by kernel_rfl) : A_.tmps[1]?.getD undef = .pointer (some ⟨w.heap.size, 0, none⟩))
      refine Rn.val fun K_ hK_ => ?_
      go_simp
      exact hK_.out _ (Ext.refl _)
    refine RnL.cons (fun g2 A_ W_ hs_ => ?_) ?_
    · have q18_ := hs_.val 0 rfl rfl rfl
      have cB0_1 := ((HB0_2.out.drew.ext hs_.1)).cell 1 rfl
      refine Rn.val fun K_ hK_ => ?_
      go_simp
      exact hK_.out _ (Ext.refl _)
    refine RnL.cons (fun g2 A_ W_ hs_ => ?_) ?_
    · have q19_ := hs_.val 1 rfl rfl rfl
      refine Rn.val fun K_ hK_ => ?_
      go_simp
      refine ((HL.out ▸ rsign_c q _)).mono ?_; rintro e _ ⟨rfl, rfl⟩; exact hK_.out _ (Ext.refl _)
    refine RnL.cons (fun g2 A_ W_ hs_ => ?_) ?_
    · have q1_ := (hs_.old 1 (by kernel_rfl) : A_.tmps[1]?.getD undef = .pointer (some ⟨w.heap.size, 0, none⟩))
      refine Rn.val fun K_ hK_ => ?_
      go_simp
      exact hK_.out _ (Ext.refl _)
    refine RnL.cons (fun g2 A_ W_ hs_ => ?_) ?_
    · have q21_ := hs_.val 3 rfl rfl rfl
      have cB0_1 := ((HB0_2.out.drew.ext hs_.1)).cell 1 rfl
      refine Rn.val fun K_ hK_ => ?_
      go_simp
      exact hK_.out _ (Ext.refl _)
    refine RnL.cons (fun g2 A_ W_ hs_ => ?_) ?_
    · have q22_ := hs_.val 4 rfl rfl rfl
      refine Rn.val fun K_ hK_ => ?_
      go_simp
      refine ((HH.out ▸ rcompare1_c q _ (HG.out.ext (HX2.out.drew.trans hs_.1)) HQ.out)).mono ?_; rintro e W9_ ⟨rfl, e9_⟩; exact hK_.out _ e9_
    refine RnL.cons (fun g2 A_ W_ hs_ => ?_) ?_
    · have q20_ := hs_.val 2 rfl rfl rfl
      refine Rn.val fun K_ hK_ => ?_
      go_simp
      exact hK_.out _ (Ext.refl _)
    refine RnL.cons (fun g2 A_ W_ hs_ => ?_) ?_
    · have q23_ := hs_.val 5 rfl rfl rfl
      refine Rn.val fun K_ hK_ => ?_
      go_simp
      exact hK_.out _ (Ext.refl _)
    exact RnL.nil
  simp only [fs, Kd.value, puts, Act.put, List.setIfInBounds_toArray, List.set_cons_zero, List.set_cons_succ]
  have HX3 : Hid (Ext w w3) := Lib.hid (HX2.out.drew.trans hx_)
  have HB0_3 := Lib.hid (HB0_2.out.drew.ext hx_)
  clear hx_ hm_ hne_
  have c0_0 := HB0_3.out.cell 0 rfl
  go_wp2
  go_ret
  exact ⟨rfl, HX3.out⟩

set_option maxRecDepth 100000 in
set_option maxHeartbeats 2000000 in
theorem lcheck_04 (o : Int) (q : Rat) (w : World) (g : Gd w) (h0 : ¬ o < 0) (h7 : ¬ 7 < o) (hp : o.tmod 2 = 0) (hq : QB 200 q) (hl : q.num.sign = 1) (hh : qcmp q 1 = 1) : Calls Tryz.prog 40 #[.agg #[.int .i64 o, .string (qs q)]] w (Ret w (.int .i64 3)) := by
  have HQ := Lib.hid hq
  have HL := Lib.hid hl
  have HH := Lib.hid hh
  have HG := Lib.hid g
  clear hq hl hh g
  have h0_d : decide (o < 0) = false := decide_eq_false h0
  have h7_d : decide (7 < o) = false := decide_eq_false h7
  clear h0 h7
  go_enter Tryz.func40, Tryz.ntmps40
  go_wp2_with fail
  refine (right15_b [qs q] 1 (w.heap.size + 1) true _ (HG.out.ext (((Ext.refl w).alloc _).alloc _)) rfl (by decide) (sizes1 (HQ.out.len (by decide))) (all1 (rq_qs HQ.out)) (Blk.new' (w := _) (cs := #[.string (qs q)]) (t := 22) (by first | rfl | (simp only [World.size_alloc]; done) | (simp only [World.size_alloc]; omega) | simp))).mono ?_; rintro e w1 ⟨rfl, e1⟩
  have HX1 : Hid (Ext w w1) := Lib.hid ((((Ext.refl w).alloc _).alloc _).trans e1)
  have HB0_1 : Hid (Blk w1 (w.heap.size) #[.int .i64 o, .string (qs q)] 28) := Lib.hid (Blk.ext ((Blk.new' (w := _) (cs := #[.int .i64 o, .string (qs q)]) (t := 28) (by first | rfl | (simp only [World.size_alloc]; done) | (simp only [World.size_alloc]; omega) | simp)).alloc _) e1)
  have HB1_1 : Hid (Blk w1 (w.heap.size + 1) #[.string (qs q)] 22) := Lib.hid (Blk.ext (Blk.new' (w := _) (cs := #[.string (qs q)]) (t := 22) (by first | rfl | (simp only [World.size_alloc]; done) | (simp only [World.size_alloc]; omega) | simp)) e1)
  have HGEB0 : Hid (w.heap.size ≤ w.heap.size) := Lib.hid (by first | omega | (simp only []; omega) | (simp; omega))
  have HGEB1 : Hid (w.heap.size ≤ w.heap.size + 1) := Lib.hid (by first | omega | (simp only []; omega) | (simp; omega))
  clear e1
  go_wp2_with fail
  refine wp_name (fun W => Ext w W ∧ Blk W (w.heap.size) #[.int .i64 o, .string (qs q)] 28) ⟨HX1.out, HB0_1.out⟩ ?_
  rintro w2 ⟨e2, bB0_2⟩
  have HX2 := Lib.hid e2; have HB0_2 := Lib.hid bB0_2
  clear e2 bB0_2
  refine region_lin [.val (.pointer (some ⟨w.heap.size, 1, none⟩)), .val (.string (qs q)), .val (.int .i64 1), .val (.pointer (some ⟨w.heap.size, 1, none⟩)), .val (.string (qs q)), .val (.int .i64 1), .val (.int .i64 1), .val (.int .i64 1)] (by kernel_rfl) (by kernel_rfl) (by kernel_rfl) ?_ (fun g2 w3 hx_ hm_ hne_ => ?_)
  · skip
    refine RnL.cons (fun g2 A_ W_ hs_ => ?_) ?_
    · have q1_ := (hs_.old 1 (by kernel_rfl) : A_.tmps[1]?.getD undef = .pointer (some ⟨w.heap.size, 0, none⟩))
      refine Rn.val fun K_ hK_ => ?_
      go_simp
      exact hK_.out _ (Ext.refl _)
    refine RnL.cons (fun g2 A_ W_ hs_ => ?_) ?_
    · have q18_ := hs_.val 0 rfl rfl rfl
      have cB0_1 := ((HB0_2.out.drew.ext hs_.1)).cell 1 rfl
      refine Rn.val fun K_ hK_ => ?_
      go_simp
      exact hK_.out _ (Ext.refl _)
    refine RnL.cons (fun g2 A_ W_ hs_ => ?_) ?_
    · have q19_ := hs_.val 1 rfl rfl rfl
      refine Rn.val fun K_ hK_ => ?_
      go_simp
      refine ((HL.out ▸ rsign_c q _)).mono ?_; rintro e _ ⟨rfl, rfl⟩; exact hK_.out _ (Ext.refl _)
    refine RnL.cons (fun g2 A_ W_ hs_ => ?_) ?_
    · have q1_ := (hs_.old 1 (by kernel_rfl) : A_.tmps[1]?.getD undef = .pointer (some ⟨w.heap.size, 0, none⟩))
      refine Rn.val fun K_ hK_ => ?_
      go_simp
      exact hK_.out _ (Ext.refl _)
    refine RnL.cons (fun g2 A_ W_ hs_ => ?_) ?_
    · have q21_ := hs_.val 3 rfl rfl rfl
      have cB0_1 := ((HB0_2.out.drew.ext hs_.1)).cell 1 rfl
      refine Rn.val fun K_ hK_ => ?_
      go_simp
      exact hK_.out _ (Ext.refl _)
    refine RnL.cons (fun g2 A_ W_ hs_ => ?_) ?_
    · have q22_ := hs_.val 4 rfl rfl rfl
      refine Rn.val fun K_ hK_ => ?_
      go_simp
      refine ((HH.out ▸ rcompare1_c q _ (HG.out.ext (HX2.out.drew.trans hs_.1)) HQ.out)).mono ?_; rintro e W9_ ⟨rfl, e9_⟩; exact hK_.out _ e9_
    refine RnL.cons (fun g2 A_ W_ hs_ => ?_) ?_
    · have q20_ := hs_.val 2 rfl rfl rfl
      refine Rn.val fun K_ hK_ => ?_
      go_simp
      exact hK_.out _ (Ext.refl _)
    refine RnL.cons (fun g2 A_ W_ hs_ => ?_) ?_
    · have q23_ := hs_.val 5 rfl rfl rfl
      refine Rn.val fun K_ hK_ => ?_
      go_simp
      exact hK_.out _ (Ext.refl _)
    exact RnL.nil
  simp only [fs, Kd.value, puts, Act.put, List.setIfInBounds_toArray, List.set_cons_zero, List.set_cons_succ]
  have HX3 : Hid (Ext w w3) := Lib.hid (HX2.out.drew.trans hx_)
  clear hx_ hm_ hne_
  go_wp2
  go_ret
  exact ⟨rfl, HX3.out⟩

set_option maxRecDepth 100000 in
set_option maxHeartbeats 2000000 in
theorem lcheck_10 (o : Int) (q : Rat) (w : World) (g : Gd w) (h0 : ¬ o < 0) (h7 : ¬ 7 < o) (hp : o.tmod 2 = 1) (hq : QB 200 q) (hl : q.num.sign = -1) (hh : qcmp q 1 = -1) : Calls Tryz.prog 40 #[.agg #[.int .i64 o, .string (qs q)]] w (Ret w (.int .i64 3)) := by
  have HQ := Lib.hid hq
  have HL := Lib.hid hl
  have HH := Lib.hid hh
  have HG := Lib.hid g
  clear hq hl hh g
  have h0_d : decide (o < 0) = false := decide_eq_false h0
  have h7_d : decide (7 < o) = false := decide_eq_false h7
  clear h0 h7
  go_enter Tryz.func40, Tryz.ntmps40
  go_wp2_with fail
  refine (right15_b [qs q] 1 (w.heap.size + 1) true _ (HG.out.ext (((Ext.refl w).alloc _).alloc _)) rfl (by decide) (sizes1 (HQ.out.len (by decide))) (all1 (rq_qs HQ.out)) (Blk.new' (w := _) (cs := #[.string (qs q)]) (t := 22) (by first | rfl | (simp only [World.size_alloc]; done) | (simp only [World.size_alloc]; omega) | simp))).mono ?_; rintro e w1 ⟨rfl, e1⟩
  have HX1 : Hid (Ext w w1) := Lib.hid ((((Ext.refl w).alloc _).alloc _).trans e1)
  have HB0_1 : Hid (Blk w1 (w.heap.size) #[.int .i64 o, .string (qs q)] 28) := Lib.hid (Blk.ext ((Blk.new' (w := _) (cs := #[.int .i64 o, .string (qs q)]) (t := 28) (by first | rfl | (simp only [World.size_alloc]; done) | (simp only [World.size_alloc]; omega) | simp)).alloc _) e1)
  have HB1_1 : Hid (Blk w1 (w.heap.size + 1) #[.string (qs q)] 22) := Lib.hid (Blk.ext (Blk.new' (w := _) (cs := #[.string (qs q)]) (t := 22) (by first | rfl | (simp only [World.size_alloc]; done) | (simp only [World.size_alloc]; omega) | simp)) e1)
  have HGEB0 : Hid (w.heap.size ≤ w.heap.size) := Lib.hid (by first | omega | (simp only []; omega) | (simp; omega))
  have HGEB1 : Hid (w.heap.size ≤ w.heap.size + 1) := Lib.hid (by first | omega | (simp only []; omega) | (simp; omega))
  clear e1
  go_wp2_with fail
  refine wp_name (fun W => Ext w W ∧ Blk W (w.heap.size) #[.int .i64 o, .string (qs q)] 28) ⟨HX1.out, HB0_1.out⟩ ?_
  rintro w2 ⟨e2, bB0_2⟩
  have HX2 := Lib.hid e2; have HB0_2 := Lib.hid bB0_2
  clear e2 bB0_2
  refine region_lin [.val (.pointer (some ⟨w.heap.size, 1, none⟩)), .val (.string (qs q)), .val (.int .i64 (-1)), .val (.pointer (some ⟨w.heap.size, 1, none⟩)), .val (.string (qs q)), .val (.int .i64 (-1)), .val (.int .i64 (-1)), .val (.int .i64 (-1))] (by kernel_rfl) (by kernel_rfl) (by kernel_rfl) ?_ (fun g2 w3 hx_ hm_ hne_ => ?_)
  · skip
    refine RnL.cons (fun g2 A_ W_ hs_ => ?_) ?_
    · have q1_ := (hs_.old 1 (by kernel_rfl) : A_.tmps[1]?.getD undef = .pointer (some ⟨w.heap.size, 0, none⟩))
      refine Rn.val fun K_ hK_ => ?_
      go_simp
      exact hK_.out _ (Ext.refl _)
    refine RnL.cons (fun g2 A_ W_ hs_ => ?_) ?_
    · have q18_ := hs_.val 0 rfl rfl rfl
      have cB0_1 := ((HB0_2.out.drew.ext hs_.1)).cell 1 rfl
      refine Rn.val fun K_ hK_ => ?_
      go_simp
      exact hK_.out _ (Ext.refl _)
    refine RnL.cons (fun g2 A_ W_ hs_ => ?_) ?_
    · have q19_ := hs_.val 1 rfl rfl rfl
      refine Rn.val fun K_ hK_ => ?_
      go_simp
      refine ((HL.out ▸ rsign_c q _)).mono ?_; rintro e _ ⟨rfl, rfl⟩; exact hK_.out _ (Ext.refl _)
    refine RnL.cons (fun g2 A_ W_ hs_ => ?_) ?_
    · have q1_ := (hs_.old 1 (by kernel_rfl) : A_.tmps[1]?.getD undef = .pointer (some ⟨w.heap.size, 0, none⟩))
      refine Rn.val fun K_ hK_ => ?_
      go_simp
      exact hK_.out _ (Ext.refl _)
    refine RnL.cons (fun g2 A_ W_ hs_ => ?_) ?_
    · have q21_ := hs_.val 3 rfl rfl rfl
      have cB0_1 := ((HB0_2.out.drew.ext hs_.1)).cell 1 rfl
      refine Rn.val fun K_ hK_ => ?_
      go_simp
      exact hK_.out _ (Ext.refl _)
    refine RnL.cons (fun g2 A_ W_ hs_ => ?_) ?_
    · have q22_ := hs_.val 4 rfl rfl rfl
      refine Rn.val fun K_ hK_ => ?_
      go_simp
      refine ((HH.out ▸ rcompare1_c q _ (HG.out.ext (HX2.out.drew.trans hs_.1)) HQ.out)).mono ?_; rintro e W9_ ⟨rfl, e9_⟩; exact hK_.out _ e9_
    refine RnL.cons (fun g2 A_ W_ hs_ => ?_) ?_
    · have q20_ := hs_.val 2 rfl rfl rfl
      refine Rn.val fun K_ hK_ => ?_
      go_simp
      exact hK_.out _ (Ext.refl _)
    refine RnL.cons (fun g2 A_ W_ hs_ => ?_) ?_
    · have q23_ := hs_.val 5 rfl rfl rfl
      refine Rn.val fun K_ hK_ => ?_
      go_simp
      exact hK_.out _ (Ext.refl _)
    exact RnL.nil
  simp only [fs, Kd.value, puts, Act.put, List.setIfInBounds_toArray, List.set_cons_zero, List.set_cons_succ]
  have HX3 : Hid (Ext w w3) := Lib.hid (HX2.out.drew.trans hx_)
  clear hx_ hm_ hne_
  go_wp2
  go_ret
  exact ⟨rfl, HX3.out⟩

set_option maxRecDepth 100000 in
set_option maxHeartbeats 2000000 in
theorem lcheck_11 (o : Int) (q : Rat) (w : World) (g : Gd w) (h0 : ¬ o < 0) (h7 : ¬ 7 < o) (hp : o.tmod 2 = 1) (hq : QB 200 q) (hl : q.num.sign = 0) (hh : qcmp q 1 = -1) : Calls Tryz.prog 40 #[.agg #[.int .i64 o, .string (qs q)]] w (Ret w (.int .i64 3)) := by
  have HQ := Lib.hid hq
  have HL := Lib.hid hl
  have HH := Lib.hid hh
  have HG := Lib.hid g
  clear hq hl hh g
  have h0_d : decide (o < 0) = false := decide_eq_false h0
  have h7_d : decide (7 < o) = false := decide_eq_false h7
  clear h0 h7
  go_enter Tryz.func40, Tryz.ntmps40
  go_wp2_with fail
  refine (right15_b [qs q] 1 (w.heap.size + 1) true _ (HG.out.ext (((Ext.refl w).alloc _).alloc _)) rfl (by decide) (sizes1 (HQ.out.len (by decide))) (all1 (rq_qs HQ.out)) (Blk.new' (w := _) (cs := #[.string (qs q)]) (t := 22) (by first | rfl | (simp only [World.size_alloc]; done) | (simp only [World.size_alloc]; omega) | simp))).mono ?_; rintro e w1 ⟨rfl, e1⟩
  have HX1 : Hid (Ext w w1) := Lib.hid ((((Ext.refl w).alloc _).alloc _).trans e1)
  have HB0_1 : Hid (Blk w1 (w.heap.size) #[.int .i64 o, .string (qs q)] 28) := Lib.hid (Blk.ext ((Blk.new' (w := _) (cs := #[.int .i64 o, .string (qs q)]) (t := 28) (by first | rfl | (simp only [World.size_alloc]; done) | (simp only [World.size_alloc]; omega) | simp)).alloc _) e1)
  have HB1_1 : Hid (Blk w1 (w.heap.size + 1) #[.string (qs q)] 22) := Lib.hid (Blk.ext (Blk.new' (w := _) (cs := #[.string (qs q)]) (t := 22) (by first | rfl | (simp only [World.size_alloc]; done) | (simp only [World.size_alloc]; omega) | simp)) e1)
  have HGEB0 : Hid (w.heap.size ≤ w.heap.size) := Lib.hid (by first | omega | (simp only []; omega) | (simp; omega))
  have HGEB1 : Hid (w.heap.size ≤ w.heap.size + 1) := Lib.hid (by first | omega | (simp only []; omega) | (simp; omega))
  clear e1
  go_wp2_with fail
  refine wp_name (fun W => Ext w W ∧ Blk W (w.heap.size) #[.int .i64 o, .string (qs q)] 28) ⟨HX1.out, HB0_1.out⟩ ?_
  rintro w2 ⟨e2, bB0_2⟩
  have HX2 := Lib.hid e2; have HB0_2 := Lib.hid bB0_2
  clear e2 bB0_2
  refine region_lin [.val (.pointer (some ⟨w.heap.size, 1, none⟩)), .val (.string (qs q)), .val (.int .i64 0), .val (.pointer (some ⟨w.heap.size, 1, none⟩)), .val (.string (qs q)), .val (.int .i64 (-1)), .val (.int .i64 0), .val (.int .i64 (-1))] (by kernel_rfl) (by kernel_rfl) (by kernel_rfl) ?_ (fun g2 w3 hx_ hm_ hne_ => ?_)
  · skip
    refine RnL.cons (fun g2 A_ W_ hs_ => ?_) ?_
    · have q1_ := (hs_.old 1 (by kernel_rfl) : A_.tmps[1]?.getD undef = .pointer (some ⟨w.heap.size, 0, none⟩))
      refine Rn.val fun K_ hK_ => ?_
      go_simp
      exact hK_.out _ (Ext.refl _)
    refine RnL.cons (fun g2 A_ W_ hs_ => ?_) ?_
    · have q18_ := hs_.val 0 rfl rfl rfl
      have cB0_1 := ((HB0_2.out.drew.ext hs_.1)).cell 1 rfl
      refine Rn.val fun K_ hK_ => ?_
      go_simp
      exact hK_.out _ (Ext.refl _)
    refine RnL.cons (fun g2 A_ W_ hs_ => ?_) ?_
    · have q19_ := hs_.val 1 rfl rfl rfl
      refine Rn.val fun K_ hK_ => ?_
      go_simp
      refine ((HL.out ▸ rsign_c q _)).mono ?_; rintro e _ ⟨rfl, rfl⟩; exact hK_.out _ (Ext.refl _)
    refine RnL.cons (fun g2 A_ W_ hs_ => ?_) ?_
    · have q1_ := (hs_.old 1 (by kernel_rfl) : A_.tmps[1]?.getD undef = .pointer (some ⟨w.heap.size, 0, none⟩))
      refine Rn.val fun K_ hK_ => ?_
      go_simp
      exact hK_.out _ (Ext.refl _)
    refine RnL.cons (fun g2 A_ W_ hs_ => ?_) ?_
    · have q21_ := hs_.val 3 rfl rfl rfl
      have cB0_1 := ((HB0_2.out.drew.ext hs_.1)).cell 1 rfl
      refine Rn.val fun K_ hK_ => ?_
      go_simp
      exact hK_.out _ (Ext.refl _)
    refine RnL.cons (fun g2 A_ W_ hs_ => ?_) ?_
    · have q22_ := hs_.val 4 rfl rfl rfl
      refine Rn.val fun K_ hK_ => ?_
      go_simp
      refine ((HH.out ▸ rcompare1_c q _ (HG.out.ext (HX2.out.drew.trans hs_.1)) HQ.out)).mono ?_; rintro e W9_ ⟨rfl, e9_⟩; exact hK_.out _ e9_
    refine RnL.cons (fun g2 A_ W_ hs_ => ?_) ?_
    · have q20_ := hs_.val 2 rfl rfl rfl
      refine Rn.val fun K_ hK_ => ?_
      go_simp
      exact hK_.out _ (Ext.refl _)
    refine RnL.cons (fun g2 A_ W_ hs_ => ?_) ?_
    · have q23_ := hs_.val 5 rfl rfl rfl
      refine Rn.val fun K_ hK_ => ?_
      go_simp
      exact hK_.out _ (Ext.refl _)
    exact RnL.nil
  simp only [fs, Kd.value, puts, Act.put, List.setIfInBounds_toArray, List.set_cons_zero, List.set_cons_succ]
  have HX3 : Hid (Ext w w3) := Lib.hid (HX2.out.drew.trans hx_)
  have HB0_3 := Lib.hid (HB0_2.out.drew.ext hx_)
  clear hx_ hm_ hne_
  have c0_0 := HB0_3.out.cell 0 rfl
  go_wp2
  go_ret
  exact ⟨rfl, HX3.out⟩

set_option maxRecDepth 100000 in
set_option maxHeartbeats 2000000 in
theorem lcheck_12 (o : Int) (q : Rat) (w : World) (g : Gd w) (h0 : ¬ o < 0) (h7 : ¬ 7 < o) (hp : o.tmod 2 = 1) (hq : QB 200 q) (hl : q.num.sign = 1) (hh : qcmp q 1 = -1) : Calls Tryz.prog 40 #[.agg #[.int .i64 o, .string (qs q)]] w (Ret w (.int .i64 0)) := by
  have HQ := Lib.hid hq
  have HL := Lib.hid hl
  have HH := Lib.hid hh
  have HG := Lib.hid g
  clear hq hl hh g
  have h0_d : decide (o < 0) = false := decide_eq_false h0
  have h7_d : decide (7 < o) = false := decide_eq_false h7
  clear h0 h7
  go_enter Tryz.func40, Tryz.ntmps40
  go_wp2_with fail
  refine (right15_b [qs q] 1 (w.heap.size + 1) true _ (HG.out.ext (((Ext.refl w).alloc _).alloc _)) rfl (by decide) (sizes1 (HQ.out.len (by decide))) (all1 (rq_qs HQ.out)) (Blk.new' (w := _) (cs := #[.string (qs q)]) (t := 22) (by first | rfl | (simp only [World.size_alloc]; done) | (simp only [World.size_alloc]; omega) | simp))).mono ?_; rintro e w1 ⟨rfl, e1⟩
  have HX1 : Hid (Ext w w1) := Lib.hid ((((Ext.refl w).alloc _).alloc _).trans e1)
  have HB0_1 : Hid (Blk w1 (w.heap.size) #[.int .i64 o, .string (qs q)] 28) := Lib.hid (Blk.ext ((Blk.new' (w := _) (cs := #[.int .i64 o, .string (qs q)]) (t := 28) (by first | rfl | (simp only [World.size_alloc]; done) | (simp only [World.size_alloc]; omega) | simp)).alloc _) e1)
  have HB1_1 : Hid (Blk w1 (w.heap.size + 1) #[.string (qs q)] 22) := Lib.hid (Blk.ext (Blk.new' (w := _) (cs := #[.string (qs q)]) (t := 22) (by first | rfl | (simp only [World.size_alloc]; done) | (simp only [World.size_alloc]; omega) | simp)) e1)
  have HGEB0 : Hid (w.heap.size ≤ w.heap.size) := Lib.hid (by first | omega | (simp only []; omega) | (simp; omega))
  have HGEB1 : Hid (w.heap.size ≤ w.heap.size + 1) := Lib.hid (by first | omega | (simp only []; omega) | (simp; omega))
  clear e1
  go_wp2_with fail
  refine wp_name (fun W => Ext w W ∧ Blk W (w.heap.size) #[.int .i64 o, .string (qs q)] 28) ⟨HX1.out, HB0_1.out⟩ ?_
  rintro w2 ⟨e2, bB0_2⟩
  have HX2 := Lib.hid e2; have HB0_2 := Lib.hid bB0_2
  clear e2 bB0_2
  refine region_lin [.val (.pointer (some ⟨w.heap.size, 1, none⟩)), .val (.string (qs q)), .val (.int .i64 1), .val (.pointer (some ⟨w.heap.size, 1, none⟩)), .val (.string (qs q)), .val (.int .i64 (-1)), .val (.int .i64 1), .val (.int .i64 (-1))] (by kernel_rfl) (by kernel_rfl) (by kernel_rfl) ?_ (fun g2 w3 hx_ hm_ hne_ => ?_)
  · skip
    refine RnL.cons (fun g2 A_ W_ hs_ => ?_) ?_
    · have q1_ := (hs_.old 1 (by kernel_rfl) : A_.tmps[1]?.getD undef = .pointer (some ⟨w.heap.size, 0, none⟩))
      refine Rn.val fun K_ hK_ => ?_
      go_simp
      exact hK_.out _ (Ext.refl _)
    refine RnL.cons (fun g2 A_ W_ hs_ => ?_) ?_
    · have q18_ := hs_.val 0 rfl rfl rfl
      have cB0_1 := ((HB0_2.out.drew.ext hs_.1)).cell 1 rfl
      refine Rn.val fun K_ hK_ => ?_
      go_simp
      exact hK_.out _ (Ext.refl _)
    refine RnL.cons (fun g2 A_ W_ hs_ => ?_) ?_
    · have q19_ := hs_.val 1 rfl rfl rfl
      refine Rn.val fun K_ hK_ => ?_
      go_simp
      refine ((HL.out ▸ rsign_c q _)).mono ?_; rintro e _ ⟨rfl, rfl⟩; exact hK_.out _ (Ext.refl _)
    refine RnL.cons (fun g2 A_ W_ hs_ => ?_) ?_
    · have q1_ := (hs_.old 1 (by kernel_rfl) : A_.tmps[1]?.getD undef = .pointer (some ⟨w.heap.size, 0, none⟩))
      refine Rn.val fun K_ hK_ => ?_
      go_simp
      exact hK_.out _ (Ext.refl _)
    refine RnL.cons (fun g2 A_ W_ hs_ => ?_) ?_
    · have q21_ := hs_.val 3 rfl rfl rfl
      have cB0_1 := ((HB0_2.out.drew.ext hs_.1)).cell 1 rfl
      refine Rn.val fun K_ hK_ => ?_
      go_simp
      exact hK_.out _ (Ext.refl _)
    refine RnL.cons (fun g2 A_ W_ hs_ => ?_) ?_
    · have q22_ := hs_.val 4 rfl rfl rfl
      refine Rn.val fun K_ hK_ => ?_
      go_simp
      refine ((HH.out ▸ rcompare1_c q _ (HG.out.ext (HX2.out.drew.trans hs_.1)) HQ.out)).mono ?_; rintro e W9_ ⟨rfl, e9_⟩; exact hK_.out _ e9_
    refine RnL.cons (fun g2 A_ W_ hs_ => ?_) ?_
    · have q20_ := hs_.val 2 rfl rfl rfl
      refine Rn.val fun K_ hK_ => ?_
      go_simp
      exact hK_.out _ (Ext.refl _)
    refine RnL.cons (fun g2 A_ W_ hs_ => ?_) ?_
    · have q23_ := hs_.val 5 rfl rfl rfl
      refine Rn.val fun K_ hK_ => ?_
      go_simp
      exact hK_.out _ (Ext.refl _)
    exact RnL.nil
  simp only [fs, Kd.value, puts, Act.put, List.setIfInBounds_toArray, List.set_cons_zero, List.set_cons_succ]
  have HX3 : Hid (Ext w w3) := Lib.hid (HX2.out.drew.trans hx_)
  have HB0_3 := Lib.hid (HB0_2.out.drew.ext hx_)
  clear hx_ hm_ hne_
  have c0_0 := HB0_3.out.cell 0 rfl
  go_wp2
  go_ret
  exact ⟨rfl, HX3.out⟩

set_option maxRecDepth 100000 in
set_option maxHeartbeats 2000000 in
theorem lcheck_13 (o : Int) (q : Rat) (w : World) (g : Gd w) (h0 : ¬ o < 0) (h7 : ¬ 7 < o) (hp : o.tmod 2 = 1) (hq : QB 200 q) (hl : q.num.sign = 1) (hh : qcmp q 1 = 0) : Calls Tryz.prog 40 #[.agg #[.int .i64 o, .string (qs q)]] w (Ret w (.int .i64 0)) := by
  have HQ := Lib.hid hq
  have HL := Lib.hid hl
  have HH := Lib.hid hh
  have HG := Lib.hid g
  clear hq hl hh g
  have h0_d : decide (o < 0) = false := decide_eq_false h0
  have h7_d : decide (7 < o) = false := decide_eq_false h7
  clear h0 h7
  go_enter Tryz.func40, Tryz.ntmps40
  go_wp2_with fail
  refine (right15_b [qs q] 1 (w.heap.size + 1) true _ (HG.out.ext (((Ext.refl w).alloc _).alloc _)) rfl (by decide) (sizes1 (HQ.out.len (by decide))) (all1 (rq_qs HQ.out)) (Blk.new' (w := _) (cs := #[.string (qs q)]) (t := 22) (by first | rfl | (simp only [World.size_alloc]; done) | (simp only [World.size_alloc]; omega) | simp))).mono ?_; rintro e w1 ⟨rfl, e1⟩
  have HX1 : Hid (Ext w w1) := Lib.hid ((((Ext.refl w).alloc _).alloc _).trans e1)
  have HB0_1 : Hid (Blk w1 (w.heap.size) #[.int .i64 o, .string (qs q)] 28) := Lib.hid (Blk.ext ((Blk.new' (w := _) (cs := #[.int .i64 o, .string (qs q)]) (t := 28) (by first | rfl | (simp only [World.size_alloc]; done) | (simp only [World.size_alloc]; omega) | simp)).alloc _) e1)
  have HB1_1 : Hid (Blk w1 (w.heap.size + 1) #[.string (qs q)] 22) := Lib.hid (Blk.ext (Blk.new' (w := _) (cs := #[.string (qs q)]) (t := 22) (by first | rfl | (simp only [World.size_alloc]; done) | (simp only [World.size_alloc]; omega) | simp)) e1)
  have HGEB0 : Hid (w.heap.size ≤ w.heap.size) := Lib.hid (by first | omega | (simp only []; omega) | (simp; omega))
  have HGEB1 : Hid (w.heap.size ≤ w.heap.size + 1) := Lib.hid (by first | omega | (simp only []; omega) | (simp; omega))
  clear e1
  go_wp2_with fail
  refine wp_name (fun W => Ext w W ∧ Blk W (w.heap.size) #[.int .i64 o, .string (qs q)] 28) ⟨HX1.out, HB0_1.out⟩ ?_
  rintro w2 ⟨e2, bB0_2⟩
  have HX2 := Lib.hid e2; have HB0_2 := Lib.hid bB0_2
  clear e2 bB0_2
  refine region_lin [.val (.pointer (some ⟨w.heap.size, 1, none⟩)), .val (.string (qs q)), .val (.int .i64 1), .val (.pointer (some ⟨w.heap.size, 1, none⟩)), .val (.string (qs q)), .val (.int .i64 0), .val (.int .i64 1), .val (.int .i64 0)] (by kernel_rfl) (by kernel_rfl) (by kernel_rfl) ?_ (fun g2 w3 hx_ hm_ hne_ => ?_)
  · skip
    refine RnL.cons (fun g2 A_ W_ hs_ => ?_) ?_
    · have q1_ := (hs_.old 1 (by kernel_rfl) : A_.tmps[1]?.getD undef = .pointer (some ⟨w.heap.size, 0, none⟩))
      refine Rn.val fun K_ hK_ => ?_
      go_simp
      exact hK_.out _ (Ext.refl _)
    refine RnL.cons (fun g2 A_ W_ hs_ => ?_) ?_
    · have q18_ := hs_.val 0 rfl rfl rfl
      have cB0_1 := ((HB0_2.out.drew.ext hs_.1)).cell 1 rfl
      refine Rn.val fun K_ hK_ => ?_
      go_simp
      exact hK_.out _ (Ext.refl _)
    refine RnL.cons (fun g2 A_ W_ hs_ => ?_) ?_
    · have q19_ := hs_.val 1 rfl rfl rfl
      refine Rn.val fun K_ hK_ => ?_
      go_simp
      refine ((HL.out ▸ rsign_c q _)).mono ?_; rintro e _ ⟨rfl, rfl⟩; exact hK_.out _ (Ext.refl _)
    refine RnL.cons (fun g2 A_ W_ hs_ => ?_) ?_
    · have q1_ := (hs_.old 1 (by kernel_rfl) : A_.tmps[1]?.getD undef = .pointer (some ⟨w.heap.size, 0, none⟩))
      refine Rn.val fun K_ hK_ => ?_
      go_simp
      exact hK_.out _ (Ext.refl _)
    refine RnL.cons (fun g2 A_ W_ hs_ => ?_) ?_
    · have q21_ := hs_.val 3 rfl rfl rfl
      have cB0_1 := ((HB0_2.out.drew.ext hs_.1)).cell 1 rfl
      refine Rn.val fun K_ hK_ => ?_
      go_simp
      exact hK_.out _ (Ext.refl _)
    refine RnL.cons (fun g2 A_ W_ hs_ => ?_) ?_
    · have q22_ := hs_.val 4 rfl rfl rfl
      refine Rn.val fun K_ hK_ => ?_
      go_simp
      refine ((HH.out ▸ rcompare1_c q _ (HG.out.ext (HX2.out.drew.trans hs_.1)) HQ.out)).mono ?_; rintro e W9_ ⟨rfl, e9_⟩; exact hK_.out _ e9_
    refine RnL.cons (fun g2 A_ W_ hs_ => ?_) ?_
    · have q20_ := hs_.val 2 rfl rfl rfl
      refine Rn.val fun K_ hK_ => ?_
      go_simp
      exact hK_.out _ (Ext.refl _)
    refine RnL.cons (fun g2 A_ W_ hs_ => ?_) ?_
    · have q23_ := hs_.val 5 rfl rfl rfl
      refine Rn.val fun K_ hK_ => ?_
      go_simp
      exact hK_.out _ (Ext.refl _)
    exact RnL.nil
  simp only [fs, Kd.value, puts, Act.put, List.setIfInBounds_toArray, List.set_cons_zero, List.set_cons_succ]
  have HX3 : Hid (Ext w w3) := Lib.hid (HX2.out.drew.trans hx_)
  have HB0_3 := Lib.hid (HB0_2.out.drew.ext hx_)
  clear hx_ hm_ hne_
  have c0_0 := HB0_3.out.cell 0 rfl
  go_wp2
  go_ret
  exact ⟨rfl, HX3.out⟩

set_option maxRecDepth 100000 in
set_option maxHeartbeats 2000000 in
theorem lcheck_14 (o : Int) (q : Rat) (w : World) (g : Gd w) (h0 : ¬ o < 0) (h7 : ¬ 7 < o) (hp : o.tmod 2 = 1) (hq : QB 200 q) (hl : q.num.sign = 1) (hh : qcmp q 1 = 1) : Calls Tryz.prog 40 #[.agg #[.int .i64 o, .string (qs q)]] w (Ret w (.int .i64 3)) := by
  have HQ := Lib.hid hq
  have HL := Lib.hid hl
  have HH := Lib.hid hh
  have HG := Lib.hid g
  clear hq hl hh g
  have h0_d : decide (o < 0) = false := decide_eq_false h0
  have h7_d : decide (7 < o) = false := decide_eq_false h7
  clear h0 h7
  go_enter Tryz.func40, Tryz.ntmps40
  go_wp2_with fail
  refine (right15_b [qs q] 1 (w.heap.size + 1) true _ (HG.out.ext (((Ext.refl w).alloc _).alloc _)) rfl (by decide) (sizes1 (HQ.out.len (by decide))) (all1 (rq_qs HQ.out)) (Blk.new' (w := _) (cs := #[.string (qs q)]) (t := 22) (by first | rfl | (simp only [World.size_alloc]; done) | (simp only [World.size_alloc]; omega) | simp))).mono ?_; rintro e w1 ⟨rfl, e1⟩
  have HX1 : Hid (Ext w w1) := Lib.hid ((((Ext.refl w).alloc _).alloc _).trans e1)
  have HB0_1 : Hid (Blk w1 (w.heap.size) #[.int .i64 o, .string (qs q)] 28) := Lib.hid (Blk.ext ((Blk.new' (w := _) (cs := #[.int .i64 o, .string (qs q)]) (t := 28) (by first | rfl | (simp only [World.size_alloc]; done) | (simp only [World.size_alloc]; omega) | simp)).alloc _) e1)
  have HB1_1 : Hid (Blk w1 (w.heap.size + 1) #[.string (qs q)] 22) := Lib.hid (Blk.ext (Blk.new' (w := _) (cs := #[.string (qs q)]) (t := 22) (by first | rfl | (simp only [World.size_alloc]; done) | (simp only [World.size_alloc]; omega) | simp)) e1)
  have HGEB0 : Hid (w.heap.size ≤ w.heap.size) := Lib.hid (by first | omega | (simp only []; omega) | (simp; omega))
  have HGEB1 : Hid (w.heap.size ≤ w.heap.size + 1) := Lib.hid (by first | omega | (simp only []; omega) | (simp; omega))
  clear e1
  go_wp2_with fail
  refine wp_name (fun W => Ext w W ∧ Blk W (w.heap.size) #[.int .i64 o, .string (qs q)] 28) ⟨HX1.out, HB0_1.out⟩ ?_
  rintro w2 ⟨e2, bB0_2⟩
  have HX2 := Lib.hid e2; have HB0_2 := Lib.hid bB0_2
  clear e2 bB0_2
  refine region_lin [.val (.pointer (some ⟨w.heap.size, 1, none⟩)), .val (.string (qs q)), .val (.int .i64 1), .val (.pointer (some ⟨w.heap.size, 1, none⟩)), .val (.string (qs q)), .val (.int .i64 1), .val (.int .i64 1), .val (.int .i64 1)] (by kernel_rfl) (by kernel_rfl) (by kernel_rfl) ?_ (fun g2 w3 hx_ hm_ hne_ => ?_)
  · skip
    refine RnL.cons (fun g2 A_ W_ hs_ => ?_) ?_
    · have q1_ := (hs_.old 1 (by kernel_rfl) : A_.tmps[1]?.getD undef = .pointer (some ⟨w.heap.size, 0, none⟩))
      refine Rn.val fun K_ hK_ => ?_
      go_simp
      exact hK_.out _ (Ext.refl _)
    refine RnL.cons (fun g2 A_ W_ hs_ => ?_) ?_
    · have q18_ := hs_.val 0 rfl rfl rfl
      have cB0_1 := ((HB0_2.out.drew.ext hs_.1)).cell 1 rfl
      refine Rn.val fun K_ hK_ => ?_
      go_simp
      exact hK_.out _ (Ext.refl _)
    refine RnL.cons (fun g2 A_ W_ hs_ => ?_) ?_
    · have q19_ := hs_.val 1 rfl rfl rfl
      refine Rn.val fun K_ hK_ => ?_
      go_simp
      refine ((HL.out ▸ rsign_c q _)).mono ?_; rintro e _ ⟨rfl, rfl⟩; exact hK_.out _ (Ext.refl _)
    refine RnL.cons (fun g2 A_ W_ hs_ => ?_) ?_
    · have q1_ := (hs_.old 1 (by kernel_rfl) : A_.tmps[1]?.getD undef = .pointer (some ⟨w.heap.size, 0, none⟩))
      refine Rn.val fun K_ hK_ => ?_
      go_simp
      exact hK_.out _ (Ext.refl _)
    refine RnL.cons (fun g2 A_ W_ hs_ => ?_) ?_
    · have q21_ := hs_.val 3 rfl rfl rfl
      have cB0_1 := ((HB0_2.out.drew.ext hs_.1)).cell 1 rfl
      refine Rn.val fun K_ hK_ => ?_
      go_simp
      exact hK_.out _ (Ext.refl _)
    refine RnL.cons (fun g2 A_ W_ hs_ => ?_) ?_
    · have q22_ := hs_.val 4 rfl rfl rfl
      refine Rn.val fun K_ hK_ => ?_
      go_simp
      refine ((HH.out ▸ rcompare1_c q _ (HG.out.ext (HX2.out.drew.trans hs_.1)) HQ.out)).mono ?_; rintro e W9_ ⟨rfl, e9_⟩; exact hK_.out _ e9_
    refine RnL.cons (fun g2 A_ W_ hs_ => ?_) ?_
    · have q20_ := hs_.val 2 rfl rfl rfl
      refine Rn.val fun K_ hK_ => ?_
      go_simp
      exact hK_.out _ (Ext.refl _)
    refine RnL.cons (fun g2 A_ W_ hs_ => ?_) ?_
    · have q23_ := hs_.val 5 rfl rfl rfl
      refine Rn.val fun K_ hK_ => ?_
      go_simp
      exact hK_.out _ (Ext.refl _)
    exact RnL.nil
  simp only [fs, Kd.value, puts, Act.put, List.setIfInBounds_toArray, List.set_cons_zero, List.set_cons_succ]
  have HX3 : Hid (Ext w w3) := Lib.hid (HX2.out.drew.trans hx_)
  clear hx_ hm_ hne_
  go_wp2
  go_ret
  exact ⟨rfl, HX3.out⟩

theorem lcheck_c {o : Int} {t : ByteArray} {e : Int} (w : World) (g : Gd w) (h : CErr o t e) : Calls Tryz.prog 40 #[.agg #[.int .i64 o, .string t]] w (Ret w (.int .i64 e)) := by
  cases h with
  | low h => exact lcheck_low o t w g h
  | high h0 h7 => exact lcheck_high o t w g h0 h7
  | num h0 h7 ht hr => exact lcheck_num o t w g h0 h7 ht hr
  | val h0 h7 q ht hq =>
    subst ht
    rcases par2 h0 with hp | hp <;> rcases cls5 q with ⟨hl, hh⟩ | ⟨hl, hh⟩ | ⟨hl, hh⟩ | ⟨hl, hh⟩ | ⟨hl, hh⟩ <;> rw [hp, hl, hh]
    · exact lcheck_00 o q w g h0 h7 hp hq hl hh
    · exact lcheck_01 o q w g h0 h7 hp hq hl hh
    · exact lcheck_02 o q w g h0 h7 hp hq hl hh
    · exact lcheck_03 o q w g h0 h7 hp hq hl hh
    · exact lcheck_04 o q w g h0 h7 hp hq hl hh
    · exact lcheck_10 o q w g h0 h7 hp hq hl hh
    · exact lcheck_11 o q w g h0 h7 hp hq hl hh
    · exact lcheck_12 o q w g h0 h7 hp hq hl hh
    · exact lcheck_13 o q w g h0 h7 hp hq hl hh
    · exact lcheck_14 o q w g h0 h7 hp hq hl hh
end Go.Proofs.YtplimbgaoengfaaGreatDoor
