/- Part 47 of the proof: N8w. -/
import Derived.Test.YtplimbgaoengfaaGreatDoorQB1
import Derived.Test.YtplimbgaoengfaaGreatDoorQB2
import Derived.Test.YtplimbgaoengfaaGreatDoorQB3
import Derived.Test.YtplimbgaoengfaaGreatDoorQB4
import Derived.Test.YtplimbgaoengfaaGreatDoorQB5
import Derived.Test.YtplimbgaoengfaaGreatDoorQB6
import Derived.Test.YtplimbgaoengfaaGreatDoorQB7
import Derived.Test.YtplimbgaoengfaaGreatDoorQB8
import Derived.Test.YtplimbgaoengfaaGreatDoorQB9
import Derived.Test.YtplimbgaoengfaaGreatDoorQB10
import Derived.Test.YtplimbgaoengfaaGreatDoorQB11
import Derived.Test.YtplimbgaoengfaaGreatDoorQB12
import Derived.Test.YtplimbgaoengfaaGreatDoorQB13
import Derived.Test.YtplimbgaoengfaaGreatDoorQB14
import Derived.Test.YtplimbgaoengfaaGreatDoorQB15
import Derived.Test.YtplimbgaoengfaaGreatDoorQB16
import Derived.Test.YtplimbgaoengfaaGreatDoorQB17
import Derived.Test.YtplimbgaoengfaaGreatDoorQB18
import Derived.Test.YtplimbgaoengfaaGreatDoorQB19
import Derived.Test.YtplimbgaoengfaaGreatDoorQB20
import Derived.Test.YtplimbgaoengfaaGreatDoorQB21
import Derived.Test.YtplimbgaoengfaaGreatDoorQB22
import Derived.Test.YtplimbgaoengfaaGreatDoorQB23
import Derived.Test.YtplimbgaoengfaaGreatDoorQB24
import Derived.Test.YtplimbgaoengfaaGreatDoorQB25
import Derived.Test.YtplimbgaoengfaaGreatDoorQB26
import Derived.Test.YtplimbgaoengfaaGreatDoorQB27
import Derived.Test.YtplimbgaoengfaaGreatDoorQB44
import Derived.Test.YtplimbgaoengfaaGreatDoorQB45
import Derived.Test.YtplimbgaoengfaaGreatDoorQB46
namespace Go.Proofs.YtplimbgaoengfaaGreatDoor
open Go Go.RowKit
set_option linter.unusedVariables false
theorem cerr_ok {o : Int} {t : ByteArray} (h : CErr o t 0) : ∃ q, t = qs q ∧ QB 200 q := by
  generalize he : (0 : Int) = e at h
  cases h with
  | low _ => omega
  | high _ _ => omega
  | num _ _ _ _ => omega
  | val h0 h7 q ht hq => exact ⟨q, ht, hq⟩
theorem cerr_val {o : Int} {t : ByteArray} {e : Int} (h : CErr o t e) : e = 0 ∨ e = 2 ∨ e = 3 := by
  cases h with
  | low _ => omega
  | high _ _ => omega
  | num _ _ _ _ => omega
  | val h0 h7 q ht hq => split <;> omega
theorem qcmp_bd9 (a b : Rat) : -1 ≤ qcmp a b ∧ qcmp a b ≤ 1 := by unfold qcmp; split <;> (try split) <;> omega
theorem cerr_par {o : Int} {t : ByteArray} {e : Int} (h : CErr o t e) (h0 : e = 0) : ¬ o < 0 := by
  cases h with
  | low _ => omega
  | high h _ => exact h
  | num h _ _ _ => exact h
  | val h _ _ _ _ => exact h

set_option maxRecDepth 100000 in
set_option maxHeartbeats 2000000 in
theorem abefore_a2 (oa ob : Int) (ta tb : ByteArray) (w : World) (g : Gd w) (hea : CErr oa ta 2) : Calls Tryz.prog 39 #[.agg #[.int .i64 oa, .string ta], .agg #[.int .i64 ob, .string tb]] w (Ret w (.tuple #[.int .i64 0, .int .i64 2])) := by
  have HEA := Lib.hid hea
  have HG := Lib.hid g
  clear hea g
  have ix0 : ∀ W, (Instr.index 98 (.agg #[.int .i64 oa, .string ta, .int .i64 ob, .string tb]) (.int .i64 0)).run Tryz.prog W = .ok (.agg #[.int .i64 oa, .string ta]) W := fun W => by kernel_rfl
  go_enter Tryz.func39, Tryz.ntmps39
  go_wp2_with fail
  refine wp_loop_rounds 1 ?_
  rw [rounds_succ]
  go_wp2_with fail
  refine (aright_c _ (HG.out.ext ((((Ext.refl w).alloc _).alloc _).alloc _)) HEA.out).mono ?_; rintro e w1 ⟨rfl, e1⟩
  have HX1 : Hid (Ext w w1) := Lib.hid (((((Ext.refl w).alloc _).alloc _).alloc _).trans e1)
  clear e1
  go_wp2
  go_ret2
  exact ⟨rfl, HX1.out⟩

set_option maxRecDepth 100000 in
set_option maxHeartbeats 2000000 in
theorem abefore_b2 (oa ob : Int) (ta tb : ByteArray) (w : World) (g : Gd w) (hea : CErr oa ta 0) (heb : CErr ob tb 2) : Calls Tryz.prog 39 #[.agg #[.int .i64 oa, .string ta], .agg #[.int .i64 ob, .string tb]] w (Ret w (.tuple #[.int .i64 0, .int .i64 2])) := by
  have HEA := Lib.hid hea
  have HEB := Lib.hid heb
  have HG := Lib.hid g
  clear hea heb g
  have ix0 : ∀ W, (Instr.index 98 (.agg #[.int .i64 oa, .string ta, .int .i64 ob, .string tb]) (.int .i64 0)).run Tryz.prog W = .ok (.agg #[.int .i64 oa, .string ta]) W := fun W => by kernel_rfl
  have ix1 : ∀ W, (Instr.index 98 (.agg #[.int .i64 oa, .string ta, .int .i64 ob, .string tb]) (.int .i64 1)).run Tryz.prog W = .ok (.agg #[.int .i64 ob, .string tb]) W := fun W => by kernel_rfl
  go_enter Tryz.func39, Tryz.ntmps39
  go_wp2_with fail
  refine wp_loop_rounds 2 ?_
  rw [rounds_succ]
  go_wp2_with fail
  refine (aright_c _ (HG.out.ext ((((Ext.refl w).alloc _).alloc _).alloc _)) HEA.out).mono ?_; rintro e w1 ⟨rfl, e1⟩
  have HX1 : Hid (Ext w w1) := Lib.hid (((((Ext.refl w).alloc _).alloc _).alloc _).trans e1)
  clear e1
  go_wp2_with fail
  rw [rounds_succ]
  go_wp2_with fail
  refine (aright_c _ (HG.out.ext (HX1.out.alloc _)) HEB.out).mono ?_; rintro e w2 ⟨rfl, e2⟩
  have HX2 : Hid (Ext w w2) := Lib.hid ((HX1.out.alloc _).trans e2)
  clear e2
  go_wp2
  go_ret2
  exact ⟨rfl, HX2.out⟩

set_option maxRecDepth 100000 in
set_option maxHeartbeats 2000000 in
theorem abefore_a3 (oa ob : Int) (ta tb : ByteArray) (w : World) (g : Gd w) (hea : CErr oa ta 3) : Calls Tryz.prog 39 #[.agg #[.int .i64 oa, .string ta], .agg #[.int .i64 ob, .string tb]] w (Ret w (.tuple #[.int .i64 0, .int .i64 3])) := by
  have HEA := Lib.hid hea
  have HG := Lib.hid g
  clear hea g
  have ix0 : ∀ W, (Instr.index 98 (.agg #[.int .i64 oa, .string ta, .int .i64 ob, .string tb]) (.int .i64 0)).run Tryz.prog W = .ok (.agg #[.int .i64 oa, .string ta]) W := fun W => by kernel_rfl
  go_enter Tryz.func39, Tryz.ntmps39
  go_wp2_with fail
  refine wp_loop_rounds 1 ?_
  rw [rounds_succ]
  go_wp2_with fail
  refine (aright_c _ (HG.out.ext ((((Ext.refl w).alloc _).alloc _).alloc _)) HEA.out).mono ?_; rintro e w1 ⟨rfl, e1⟩
  have HX1 : Hid (Ext w w1) := Lib.hid (((((Ext.refl w).alloc _).alloc _).alloc _).trans e1)
  clear e1
  go_wp2
  go_ret2
  exact ⟨rfl, HX1.out⟩

set_option maxRecDepth 100000 in
set_option maxHeartbeats 2000000 in
theorem abefore_b3 (oa ob : Int) (ta tb : ByteArray) (w : World) (g : Gd w) (hea : CErr oa ta 0) (heb : CErr ob tb 3) : Calls Tryz.prog 39 #[.agg #[.int .i64 oa, .string ta], .agg #[.int .i64 ob, .string tb]] w (Ret w (.tuple #[.int .i64 0, .int .i64 3])) := by
  have HEA := Lib.hid hea
  have HEB := Lib.hid heb
  have HG := Lib.hid g
  clear hea heb g
  have ix0 : ∀ W, (Instr.index 98 (.agg #[.int .i64 oa, .string ta, .int .i64 ob, .string tb]) (.int .i64 0)).run Tryz.prog W = .ok (.agg #[.int .i64 oa, .string ta]) W := fun W => by kernel_rfl
  have ix1 : ∀ W, (Instr.index 98 (.agg #[.int .i64 oa, .string ta, .int .i64 ob, .string tb]) (.int .i64 1)).run Tryz.prog W = .ok (.agg #[.int .i64 ob, .string tb]) W := fun W => by kernel_rfl
  go_enter Tryz.func39, Tryz.ntmps39
  go_wp2_with fail
  refine wp_loop_rounds 2 ?_
  rw [rounds_succ]
  go_wp2_with fail
  refine (aright_c _ (HG.out.ext ((((Ext.refl w).alloc _).alloc _).alloc _)) HEA.out).mono ?_; rintro e w1 ⟨rfl, e1⟩
  have HX1 : Hid (Ext w w1) := Lib.hid (((((Ext.refl w).alloc _).alloc _).alloc _).trans e1)
  clear e1
  go_wp2_with fail
  rw [rounds_succ]
  go_wp2_with fail
  refine (aright_c _ (HG.out.ext (HX1.out.alloc _)) HEB.out).mono ?_; rintro e w2 ⟨rfl, e2⟩
  have HX2 : Hid (Ext w w2) := Lib.hid ((HX1.out.alloc _).trans e2)
  clear e2
  go_wp2
  go_ret2
  exact ⟨rfl, HX2.out⟩

set_option maxRecDepth 100000 in
set_option maxHeartbeats 2000000 in
theorem abefore_lt (oa ob : Int) (p q : Rat) (w : World) (g : Gd w) (hpp : QB 200 p) (hqq : QB 200 q) (hea : CErr oa (qs p) 0) (heb : CErr ob (qs q) 0) (hlt : oa < ob) : Calls Tryz.prog 39 #[.agg #[.int .i64 oa, .string (qs p)], .agg #[.int .i64 ob, .string (qs q)]] w (Ret w (.tuple #[.int .i64 (-1), .int .i64 0])) := by
  have HP := Lib.hid hpp
  have HQ := Lib.hid hqq
  have HEA := Lib.hid hea
  have HEB := Lib.hid heb
  have HG := Lib.hid g
  clear hpp hqq hea heb g
  have hlt_d : decide (oa < ob) = true := decide_eq_true (by omega)
  clear hlt
  have ix0 : ∀ W, (Instr.index 98 (.agg #[.int .i64 oa, .string (qs p), .int .i64 ob, .string (qs q)]) (.int .i64 0)).run Tryz.prog W = .ok (.agg #[.int .i64 oa, .string (qs p)]) W := fun W => by kernel_rfl
  have ix1 : ∀ W, (Instr.index 98 (.agg #[.int .i64 oa, .string (qs p), .int .i64 ob, .string (qs q)]) (.int .i64 1)).run Tryz.prog W = .ok (.agg #[.int .i64 ob, .string (qs q)]) W := fun W => by kernel_rfl
  go_enter Tryz.func39, Tryz.ntmps39
  go_wp2_with fail
  refine wp_loop_rounds 3 ?_
  rw [rounds_succ]
  go_wp2_with fail
  refine (aright_c _ (HG.out.ext ((((Ext.refl w).alloc _).alloc _).alloc _)) HEA.out).mono ?_; rintro e w1 ⟨rfl, e1⟩
  have HX1 : Hid (Ext w w1) := Lib.hid (((((Ext.refl w).alloc _).alloc _).alloc _).trans e1)
  have HB0_1 : Hid (Blk w1 (w.heap.size) #[.int .i64 oa, .string (qs p)] 28) := Lib.hid (Blk.ext (((Blk.new' (w := _) (cs := #[.int .i64 oa, .string (qs p)]) (t := 28) (by first | rfl | (simp only [World.size_alloc]; done) | (simp only [World.size_alloc]; omega) | simp)).alloc _).alloc _) e1)
  have HB1_1 : Hid (Blk w1 (w.heap.size + 1) #[.int .i64 ob, .string (qs q)] 28) := Lib.hid (Blk.ext ((Blk.new' (w := _) (cs := #[.int .i64 ob, .string (qs q)]) (t := 28) (by first | rfl | (simp only [World.size_alloc]; done) | (simp only [World.size_alloc]; omega) | simp)).alloc _) e1)
  have HGEB0 : Hid (w.heap.size ≤ w.heap.size) := Lib.hid (by first | omega | (simp only []; omega) | (simp; omega))
  have HGEB1 : Hid (w.heap.size ≤ w.heap.size + 1) := Lib.hid (by first | omega | (simp only []; omega) | (simp; omega))
  clear e1
  go_wp2_with fail
  rw [rounds_succ]
  go_upto_region 4 with fail
  refine wp_name (fun W => Ext w W ∧ Blk W (w.heap.size) #[.int .i64 oa, .string (qs p)] 28 ∧ Blk W (w.heap.size + 1) #[.int .i64 ob, .string (qs q)] 28 ∧ Blk W (w1.heap.size) #[.int .i64 ob, .string (qs q)] 28) ⟨(HX1.out.alloc _), (HB0_1.out.alloc _), (HB1_1.out.alloc _), (Blk.new' (w := _) (cs := #[.int .i64 ob, .string (qs q)]) (t := 28) (by first | rfl | (simp only [World.size_alloc]; done) | (simp only [World.size_alloc]; omega) | simp))⟩ ?_
  rintro w2 ⟨e2, bB0_2, bB1_2, bB3_2⟩
  have HX2 := Lib.hid e2; have HB0_2 := Lib.hid bB0_2; have HB1_2 := Lib.hid bB1_2; have HB3_2 := Lib.hid bB3_2
  have HGEB3 : Hid (w.heap.size ≤ w1.heap.size) := Lib.hid (by have := HX1.out.size; first | omega | (simp only []; omega) | (simp; omega))
  clear e2 bB0_2 bB1_2 bB3_2
  have c3_0 := HB3_2.out.cell 0 rfl
  have c3_1 := HB3_2.out.cell 1 rfl
  go_wp2_with fail
  refine (aright_c _ (HG.out.ext HX2.out) HEB.out).mono ?_; rintro e w3 ⟨rfl, e3⟩
  have HX3 : Hid (Ext w w3) := Lib.hid (HX2.out.trans e3)
  have HB0_3 := Lib.hid (Blk.ext HB0_2.out e3)
  have HB1_3 := Lib.hid (Blk.ext HB1_2.out e3)
  clear e3 c3_0 c3_1
  go_wp2_with fail
  rw [rounds_succ]
  have c0_0 := HB0_3.out.cell 0 rfl
  have c1_0 := HB1_3.out.cell 0 rfl
  go_wp2
  go_ret2
  exact ⟨rfl, HX3.out⟩

set_option maxRecDepth 100000 in
set_option maxHeartbeats 2000000 in
theorem abefore_gt (oa ob : Int) (p q : Rat) (w : World) (g : Gd w) (hpp : QB 200 p) (hqq : QB 200 q) (hea : CErr oa (qs p) 0) (heb : CErr ob (qs q) 0) (hlt : ob ≤ oa) (hgt : ob < oa) : Calls Tryz.prog 39 #[.agg #[.int .i64 oa, .string (qs p)], .agg #[.int .i64 ob, .string (qs q)]] w (Ret w (.tuple #[.int .i64 1, .int .i64 0])) := by
  have HP := Lib.hid hpp
  have HQ := Lib.hid hqq
  have HEA := Lib.hid hea
  have HEB := Lib.hid heb
  have HG := Lib.hid g
  clear hpp hqq hea heb g
  have hlt_d : decide (oa < ob) = false := decide_eq_false (by omega)
  have hgt_d : decide (ob < oa) = true := decide_eq_true (by omega)
  clear hlt hgt
  have ix0 : ∀ W, (Instr.index 98 (.agg #[.int .i64 oa, .string (qs p), .int .i64 ob, .string (qs q)]) (.int .i64 0)).run Tryz.prog W = .ok (.agg #[.int .i64 oa, .string (qs p)]) W := fun W => by kernel_rfl
  have ix1 : ∀ W, (Instr.index 98 (.agg #[.int .i64 oa, .string (qs p), .int .i64 ob, .string (qs q)]) (.int .i64 1)).run Tryz.prog W = .ok (.agg #[.int .i64 ob, .string (qs q)]) W := fun W => by kernel_rfl
  go_enter Tryz.func39, Tryz.ntmps39
  go_wp2_with fail
  refine wp_loop_rounds 3 ?_
  rw [rounds_succ]
  go_wp2_with fail
  refine (aright_c _ (HG.out.ext ((((Ext.refl w).alloc _).alloc _).alloc _)) HEA.out).mono ?_; rintro e w1 ⟨rfl, e1⟩
  have HX1 : Hid (Ext w w1) := Lib.hid (((((Ext.refl w).alloc _).alloc _).alloc _).trans e1)
  have HB0_1 : Hid (Blk w1 (w.heap.size) #[.int .i64 oa, .string (qs p)] 28) := Lib.hid (Blk.ext (((Blk.new' (w := _) (cs := #[.int .i64 oa, .string (qs p)]) (t := 28) (by first | rfl | (simp only [World.size_alloc]; done) | (simp only [World.size_alloc]; omega) | simp)).alloc _).alloc _) e1)
  have HB1_1 : Hid (Blk w1 (w.heap.size + 1) #[.int .i64 ob, .string (qs q)] 28) := Lib.hid (Blk.ext ((Blk.new' (w := _) (cs := #[.int .i64 ob, .string (qs q)]) (t := 28) (by first | rfl | (simp only [World.size_alloc]; done) | (simp only [World.size_alloc]; omega) | simp)).alloc _) e1)
  have HGEB0 : Hid (w.heap.size ≤ w.heap.size) := Lib.hid (by first | omega | (simp only []; omega) | (simp; omega))
  have HGEB1 : Hid (w.heap.size ≤ w.heap.size + 1) := Lib.hid (by first | omega | (simp only []; omega) | (simp; omega))
  clear e1
  go_wp2_with fail
  rw [rounds_succ]
  go_upto_region 4 with fail
  refine wp_name (fun W => Ext w W ∧ Blk W (w.heap.size) #[.int .i64 oa, .string (qs p)] 28 ∧ Blk W (w.heap.size + 1) #[.int .i64 ob, .string (qs q)] 28 ∧ Blk W (w1.heap.size) #[.int .i64 ob, .string (qs q)] 28) ⟨(HX1.out.alloc _), (HB0_1.out.alloc _), (HB1_1.out.alloc _), (Blk.new' (w := _) (cs := #[.int .i64 ob, .string (qs q)]) (t := 28) (by first | rfl | (simp only [World.size_alloc]; done) | (simp only [World.size_alloc]; omega) | simp))⟩ ?_
  rintro w2 ⟨e2, bB0_2, bB1_2, bB3_2⟩
  have HX2 := Lib.hid e2; have HB0_2 := Lib.hid bB0_2; have HB1_2 := Lib.hid bB1_2; have HB3_2 := Lib.hid bB3_2
  have HGEB3 : Hid (w.heap.size ≤ w1.heap.size) := Lib.hid (by have := HX1.out.size; first | omega | (simp only []; omega) | (simp; omega))
  clear e2 bB0_2 bB1_2 bB3_2
  have c3_0 := HB3_2.out.cell 0 rfl
  have c3_1 := HB3_2.out.cell 1 rfl
  go_wp2_with fail
  refine (aright_c _ (HG.out.ext HX2.out) HEB.out).mono ?_; rintro e w3 ⟨rfl, e3⟩
  have HX3 : Hid (Ext w w3) := Lib.hid (HX2.out.trans e3)
  have HB0_3 := Lib.hid (Blk.ext HB0_2.out e3)
  have HB1_3 := Lib.hid (Blk.ext HB1_2.out e3)
  clear e3 c3_0 c3_1
  go_wp2_with fail
  rw [rounds_succ]
  have c0_0 := HB0_3.out.cell 0 rfl
  have c1_0 := HB1_3.out.cell 0 rfl
  go_wp2
  go_ret2
  exact ⟨rfl, HX3.out⟩

set_option maxRecDepth 100000 in
set_option maxHeartbeats 2000000 in
theorem abefore_ev (oa ob : Int) (p q : Rat) (w : World) (g : Gd w) (hpp : QB 200 p) (hqq : QB 200 q) (hea : CErr oa (qs p) 0) (heb : CErr ob (qs q) 0) (hlt : ob ≤ oa) (hgt : oa ≤ ob) (hp : oa.tmod 2 = 0) : Calls Tryz.prog 39 #[.agg #[.int .i64 oa, .string (qs p)], .agg #[.int .i64 ob, .string (qs q)]] w (Ret w (.tuple #[.int .i64 (qcmp p q), .int .i64 0])) := by
  have HP := Lib.hid hpp
  have HQ := Lib.hid hqq
  have HEA := Lib.hid hea
  have HEB := Lib.hid heb
  have HG := Lib.hid g
  clear hpp hqq hea heb g
  have hlt_d : decide (oa < ob) = false := decide_eq_false (by omega)
  have hgt_d : decide (ob < oa) = false := decide_eq_false (by omega)
  clear hlt hgt
  have ix0 : ∀ W, (Instr.index 98 (.agg #[.int .i64 oa, .string (qs p), .int .i64 ob, .string (qs q)]) (.int .i64 0)).run Tryz.prog W = .ok (.agg #[.int .i64 oa, .string (qs p)]) W := fun W => by kernel_rfl
  have ix1 : ∀ W, (Instr.index 98 (.agg #[.int .i64 oa, .string (qs p), .int .i64 ob, .string (qs q)]) (.int .i64 1)).run Tryz.prog W = .ok (.agg #[.int .i64 ob, .string (qs q)]) W := fun W => by kernel_rfl
  go_enter Tryz.func39, Tryz.ntmps39
  go_wp2_with fail
  refine wp_loop_rounds 3 ?_
  rw [rounds_succ]
  go_wp2_with fail
  refine (aright_c _ (HG.out.ext ((((Ext.refl w).alloc _).alloc _).alloc _)) HEA.out).mono ?_; rintro e w1 ⟨rfl, e1⟩
  have HX1 : Hid (Ext w w1) := Lib.hid (((((Ext.refl w).alloc _).alloc _).alloc _).trans e1)
  have HB0_1 : Hid (Blk w1 (w.heap.size) #[.int .i64 oa, .string (qs p)] 28) := Lib.hid (Blk.ext (((Blk.new' (w := _) (cs := #[.int .i64 oa, .string (qs p)]) (t := 28) (by first | rfl | (simp only [World.size_alloc]; done) | (simp only [World.size_alloc]; omega) | simp)).alloc _).alloc _) e1)
  have HB1_1 : Hid (Blk w1 (w.heap.size + 1) #[.int .i64 ob, .string (qs q)] 28) := Lib.hid (Blk.ext ((Blk.new' (w := _) (cs := #[.int .i64 ob, .string (qs q)]) (t := 28) (by first | rfl | (simp only [World.size_alloc]; done) | (simp only [World.size_alloc]; omega) | simp)).alloc _) e1)
  have HGEB0 : Hid (w.heap.size ≤ w.heap.size) := Lib.hid (by first | omega | (simp only []; omega) | (simp; omega))
  have HGEB1 : Hid (w.heap.size ≤ w.heap.size + 1) := Lib.hid (by first | omega | (simp only []; omega) | (simp; omega))
  clear e1
  go_wp2_with fail
  rw [rounds_succ]
  go_upto_region 4 with fail
  refine wp_name (fun W => Ext w W ∧ Blk W (w.heap.size) #[.int .i64 oa, .string (qs p)] 28 ∧ Blk W (w.heap.size + 1) #[.int .i64 ob, .string (qs q)] 28 ∧ Blk W (w1.heap.size) #[.int .i64 ob, .string (qs q)] 28) ⟨(HX1.out.alloc _), (HB0_1.out.alloc _), (HB1_1.out.alloc _), (Blk.new' (w := _) (cs := #[.int .i64 ob, .string (qs q)]) (t := 28) (by first | rfl | (simp only [World.size_alloc]; done) | (simp only [World.size_alloc]; omega) | simp))⟩ ?_
  rintro w2 ⟨e2, bB0_2, bB1_2, bB3_2⟩
  have HX2 := Lib.hid e2; have HB0_2 := Lib.hid bB0_2; have HB1_2 := Lib.hid bB1_2; have HB3_2 := Lib.hid bB3_2
  have HGEB3 : Hid (w.heap.size ≤ w1.heap.size) := Lib.hid (by have := HX1.out.size; first | omega | (simp only []; omega) | (simp; omega))
  clear e2 bB0_2 bB1_2 bB3_2
  have c3_0 := HB3_2.out.cell 0 rfl
  have c3_1 := HB3_2.out.cell 1 rfl
  go_wp2_with fail
  refine (aright_c _ (HG.out.ext HX2.out) HEB.out).mono ?_; rintro e w3 ⟨rfl, e3⟩
  have HX3 : Hid (Ext w w3) := Lib.hid (HX2.out.trans e3)
  have HB0_3 := Lib.hid (Blk.ext HB0_2.out e3)
  have HB1_3 := Lib.hid (Blk.ext HB1_2.out e3)
  clear e3 c3_0 c3_1
  go_wp2_with fail
  rw [rounds_succ]
  have c0_0 := HB0_3.out.cell 0 rfl
  have c1_0 := HB1_3.out.cell 0 rfl
  have c0_1 := HB0_3.out.cell 1 rfl
  have c1_1 := HB1_3.out.cell 1 rfl
  go_wp2_with fail
  refine (rcompare_c p q _ (HG.out.ext HX3.out) HP.out HQ.out (by omega) (by omega)).mono ?_; rintro e w4 ⟨rfl, e4⟩
  have HX4 : Hid (Ext w w4) := Lib.hid (HX3.out.trans e4)
  clear e4 c0_0 c1_0 c0_1 c1_1
  go_wp2
  go_ret2
  exact ⟨rfl, HX4.out⟩

set_option maxRecDepth 100000 in
set_option maxHeartbeats 2000000 in
theorem abefore_od (oa ob : Int) (p q : Rat) (w : World) (g : Gd w) (hpp : QB 200 p) (hqq : QB 200 q) (hea : CErr oa (qs p) 0) (heb : CErr ob (qs q) 0) (hlt : ob ≤ oa) (hgt : oa ≤ ob) (hp : oa.tmod 2 = 1) : Calls Tryz.prog 39 #[.agg #[.int .i64 oa, .string (qs p)], .agg #[.int .i64 ob, .string (qs q)]] w (Ret w (.tuple #[.int .i64 (qcmp q p), .int .i64 0])) := by
  have HP := Lib.hid hpp
  have HQ := Lib.hid hqq
  have HEA := Lib.hid hea
  have HEB := Lib.hid heb
  have HG := Lib.hid g
  clear hpp hqq hea heb g
  have hlt_d : decide (oa < ob) = false := decide_eq_false (by omega)
  have hgt_d : decide (ob < oa) = false := decide_eq_false (by omega)
  clear hlt hgt
  have ix0 : ∀ W, (Instr.index 98 (.agg #[.int .i64 oa, .string (qs p), .int .i64 ob, .string (qs q)]) (.int .i64 0)).run Tryz.prog W = .ok (.agg #[.int .i64 oa, .string (qs p)]) W := fun W => by kernel_rfl
  have ix1 : ∀ W, (Instr.index 98 (.agg #[.int .i64 oa, .string (qs p), .int .i64 ob, .string (qs q)]) (.int .i64 1)).run Tryz.prog W = .ok (.agg #[.int .i64 ob, .string (qs q)]) W := fun W => by kernel_rfl
  go_enter Tryz.func39, Tryz.ntmps39
  go_wp2_with fail
  refine wp_loop_rounds 3 ?_
  rw [rounds_succ]
  go_wp2_with fail
  refine (aright_c _ (HG.out.ext ((((Ext.refl w).alloc _).alloc _).alloc _)) HEA.out).mono ?_; rintro e w1 ⟨rfl, e1⟩
  have HX1 : Hid (Ext w w1) := Lib.hid (((((Ext.refl w).alloc _).alloc _).alloc _).trans e1)
  have HB0_1 : Hid (Blk w1 (w.heap.size) #[.int .i64 oa, .string (qs p)] 28) := Lib.hid (Blk.ext (((Blk.new' (w := _) (cs := #[.int .i64 oa, .string (qs p)]) (t := 28) (by first | rfl | (simp only [World.size_alloc]; done) | (simp only [World.size_alloc]; omega) | simp)).alloc _).alloc _) e1)
  have HB1_1 : Hid (Blk w1 (w.heap.size + 1) #[.int .i64 ob, .string (qs q)] 28) := Lib.hid (Blk.ext ((Blk.new' (w := _) (cs := #[.int .i64 ob, .string (qs q)]) (t := 28) (by first | rfl | (simp only [World.size_alloc]; done) | (simp only [World.size_alloc]; omega) | simp)).alloc _) e1)
  have HGEB0 : Hid (w.heap.size ≤ w.heap.size) := Lib.hid (by first | omega | (simp only []; omega) | (simp; omega))
  have HGEB1 : Hid (w.heap.size ≤ w.heap.size + 1) := Lib.hid (by first | omega | (simp only []; omega) | (simp; omega))
  clear e1
  go_wp2_with fail
  rw [rounds_succ]
  go_upto_region 4 with fail
  refine wp_name (fun W => Ext w W ∧ Blk W (w.heap.size) #[.int .i64 oa, .string (qs p)] 28 ∧ Blk W (w.heap.size + 1) #[.int .i64 ob, .string (qs q)] 28 ∧ Blk W (w1.heap.size) #[.int .i64 ob, .string (qs q)] 28) ⟨(HX1.out.alloc _), (HB0_1.out.alloc _), (HB1_1.out.alloc _), (Blk.new' (w := _) (cs := #[.int .i64 ob, .string (qs q)]) (t := 28) (by first | rfl | (simp only [World.size_alloc]; done) | (simp only [World.size_alloc]; omega) | simp))⟩ ?_
  rintro w2 ⟨e2, bB0_2, bB1_2, bB3_2⟩
  have HX2 := Lib.hid e2; have HB0_2 := Lib.hid bB0_2; have HB1_2 := Lib.hid bB1_2; have HB3_2 := Lib.hid bB3_2
  have HGEB3 : Hid (w.heap.size ≤ w1.heap.size) := Lib.hid (by have := HX1.out.size; first | omega | (simp only []; omega) | (simp; omega))
  clear e2 bB0_2 bB1_2 bB3_2
  have c3_0 := HB3_2.out.cell 0 rfl
  have c3_1 := HB3_2.out.cell 1 rfl
  go_wp2_with fail
  refine (aright_c _ (HG.out.ext HX2.out) HEB.out).mono ?_; rintro e w3 ⟨rfl, e3⟩
  have HX3 : Hid (Ext w w3) := Lib.hid (HX2.out.trans e3)
  have HB0_3 := Lib.hid (Blk.ext HB0_2.out e3)
  have HB1_3 := Lib.hid (Blk.ext HB1_2.out e3)
  clear e3 c3_0 c3_1
  go_wp2_with fail
  rw [rounds_succ]
  have c0_0 := HB0_3.out.cell 0 rfl
  have c1_0 := HB1_3.out.cell 0 rfl
  have c1_1 := HB1_3.out.cell 1 rfl
  have c0_1 := HB0_3.out.cell 1 rfl
  go_wp2_with fail
  refine (rcompare_c q p _ (HG.out.ext HX3.out) HQ.out HP.out (by omega) (by omega)).mono ?_; rintro e w4 ⟨rfl, e4⟩
  have HX4 : Hid (Ext w w4) := Lib.hid (HX3.out.trans e4)
  clear e4 c0_0 c1_0 c1_1 c0_1
  go_wp2
  go_ret2
  exact ⟨rfl, HX4.out⟩

set_option maxRecDepth 100000 in
set_option maxHeartbeats 8000000 in
theorem orders15_L (oa ob : Int) (ta tb : ByteArray) (w : World) (g : Gd w) (hsz : [ta, tb].all sz24 = false) : Calls Tryz.prog 10 #[.agg #[.int .i64 oa, .string ta], .agg #[.int .i64 ob, .string tb]] w (Ret w (.bool true)) := by
  have HG := Lib.hid g
  clear g
  have HSZ := Lib.hid hsz
  clear hsz
  go_enter Tryz.func10, Tryz.ntmps10
  go_wp2_with fail
  refine (known15_c _ (HG.out.ext (((Ext.refl w).alloc _).alloc _))).mono ?_; rintro e w1 ⟨rfl, e1⟩
  have HX1 : Hid (Ext w w1) := Lib.hid ((((Ext.refl w).alloc _).alloc _).trans e1)
  have HB0_1 : Hid (Blk w1 (w.heap.size) #[.int .i64 oa, .string ta] 28) := Lib.hid (Blk.ext ((Blk.new' (w := _) (cs := #[.int .i64 oa, .string ta]) (t := 28) (by first | rfl | (simp only [World.size_alloc]; done) | (simp only [World.size_alloc]; omega) | simp)).alloc _) e1)
  have HB1_1 : Hid (Blk w1 (w.heap.size + 1) #[.int .i64 ob, .string tb] 28) := Lib.hid (Blk.ext (Blk.new' (w := _) (cs := #[.int .i64 ob, .string tb]) (t := 28) (by first | rfl | (simp only [World.size_alloc]; done) | (simp only [World.size_alloc]; omega) | simp)) e1)
  have HGEB0 : Hid (w.heap.size ≤ w.heap.size) := Lib.hid (by first | omega | (simp only []; omega) | (simp; omega))
  have HGEB1 : Hid (w.heap.size ≤ w.heap.size + 1) := Lib.hid (by first | omega | (simp only []; omega) | (simp; omega))
  clear e1
  have c0_1 := HB0_1.out.cell 1 rfl
  have c1_1 := HB1_1.out.cell 1 rfl
  go_wp2_with fail
  refine (short15_b [ta, tb] 2 (w1.heap.size) false _ rfl (by decide) HSZ.out (Blk.new' (w := _) (cs := #[.string ta, .string tb]) (t := 22) (by first | rfl | (simp only [World.size_alloc]; done) | (simp only [World.size_alloc]; omega) | simp))).mono ?_; rintro e w2 ⟨rfl, e2⟩
  have HX2 : Hid (Ext w w2) := Lib.hid ((HX1.out.alloc _).trans e2)
  have HB2_2 : Hid (Blk w2 (w1.heap.size) #[.string ta, .string tb] 22) := Lib.hid (Blk.ext (Blk.new' (w := _) (cs := #[.string ta, .string tb]) (t := 22) (by first | rfl | (simp only [World.size_alloc]; done) | (simp only [World.size_alloc]; omega) | simp)) e2)
  have HGEB2 : Hid (w.heap.size ≤ w1.heap.size) := Lib.hid (by have := HX1.out.size; first | omega | (simp only []; omega) | (simp; omega))
  clear e2 c0_1 c1_1
  go_wp2_with fail
  refine (known15_c _ (HG.out.ext HX2.out)).mono ?_; rintro e w3 ⟨rfl, e3⟩
  have HX3 : Hid (Ext w w3) := Lib.hid (HX2.out.trans e3)
  clear e3
  go_wp2
  go_ret
  exact ⟨rfl, HX3.out⟩

set_option maxRecDepth 100000 in
set_option maxHeartbeats 8000000 in
theorem orders15_a2 (oa ob : Int) (ta tb : ByteArray) (w : World) (g : Gd w) (hsz : [ta, tb].all sz24 = true) (hea : CErr oa ta 2) : Calls Tryz.prog 10 #[.agg #[.int .i64 oa, .string ta], .agg #[.int .i64 ob, .string tb]] w (Ret w (.bool true)) := by
  have HEA := Lib.hid hea
  have HG := Lib.hid g
  clear hea g
  have HSZ := Lib.hid hsz; clear hsz
  go_enter Tryz.func10, Tryz.ntmps10
  go_wp2_with fail
  refine (known15_c _ (HG.out.ext (((Ext.refl w).alloc _).alloc _))).mono ?_; rintro e w1 ⟨rfl, e1⟩
  have HX1 : Hid (Ext w w1) := Lib.hid ((((Ext.refl w).alloc _).alloc _).trans e1)
  have HB0_1 : Hid (Blk w1 (w.heap.size) #[.int .i64 oa, .string ta] 28) := Lib.hid (Blk.ext ((Blk.new' (w := _) (cs := #[.int .i64 oa, .string ta]) (t := 28) (by first | rfl | (simp only [World.size_alloc]; done) | (simp only [World.size_alloc]; omega) | simp)).alloc _) e1)
  have HB1_1 : Hid (Blk w1 (w.heap.size + 1) #[.int .i64 ob, .string tb] 28) := Lib.hid (Blk.ext (Blk.new' (w := _) (cs := #[.int .i64 ob, .string tb]) (t := 28) (by first | rfl | (simp only [World.size_alloc]; done) | (simp only [World.size_alloc]; omega) | simp)) e1)
  have HGEB0 : Hid (w.heap.size ≤ w.heap.size) := Lib.hid (by first | omega | (simp only []; omega) | (simp; omega))
  have HGEB1 : Hid (w.heap.size ≤ w.heap.size + 1) := Lib.hid (by first | omega | (simp only []; omega) | (simp; omega))
  clear e1
  have c0_1 := HB0_1.out.cell 1 rfl
  have c1_1 := HB1_1.out.cell 1 rfl
  go_wp2_with fail
  refine (short15_b [ta, tb] 2 (w1.heap.size) true _ rfl (by decide) HSZ.out (Blk.new' (w := _) (cs := #[.string ta, .string tb]) (t := 22) (by first | rfl | (simp only [World.size_alloc]; done) | (simp only [World.size_alloc]; omega) | simp))).mono ?_; rintro e w2 ⟨rfl, e2⟩
  have HX2 : Hid (Ext w w2) := Lib.hid ((HX1.out.alloc _).trans e2)
  have HB0_2 : Hid (Blk w2 (w.heap.size) #[.int .i64 oa, .string ta] 28) := Lib.hid (Blk.ext (HB0_1.out.alloc _) e2)
  have HB1_2 : Hid (Blk w2 (w.heap.size + 1) #[.int .i64 ob, .string tb] 28) := Lib.hid (Blk.ext (HB1_1.out.alloc _) e2)
  have HB2_2 : Hid (Blk w2 (w1.heap.size) #[.string ta, .string tb] 22) := Lib.hid (Blk.ext (Blk.new' (w := _) (cs := #[.string ta, .string tb]) (t := 22) (by first | rfl | (simp only [World.size_alloc]; done) | (simp only [World.size_alloc]; omega) | simp)) e2)
  have HGEB2 : Hid (w.heap.size ≤ w1.heap.size) := Lib.hid (by have := HX1.out.size; first | omega | (simp only []; omega) | (simp; omega))
  clear e2 c0_1 c1_1
  have c0_0 := HB0_2.out.cell 0 rfl
  have c0_1 := HB0_2.out.cell 1 rfl
  have c1_0 := HB1_2.out.cell 0 rfl
  have c1_1 := HB1_2.out.cell 1 rfl
  go_wp2_with fail
  refine (abefore_a2 oa ob ta tb _ (HG.out.ext HX2.out) HEA.out).mono ?_; rintro e w3 ⟨rfl, e3⟩
  have HX3 : Hid (Ext w w3) := Lib.hid (HX2.out.trans e3)
  have HB0_3 := Lib.hid (Blk.ext HB0_2.out e3)
  clear e3 c0_0 c0_1 c1_0 c1_1
  have c0_0 := HB0_3.out.cell 0 rfl
  have c0_1 := HB0_3.out.cell 1 rfl
  go_wp2_with fail
  refine (lcheck_c _ (HG.out.ext HX3.out) HEA.out).mono ?_; rintro e w4 ⟨rfl, e4⟩
  have HX4 : Hid (Ext w w4) := Lib.hid (HX3.out.trans e4)
  clear e4 c0_0 c0_1
  go_wp2
  go_ret
  exact ⟨rfl, HX4.out⟩

set_option maxRecDepth 100000 in
set_option maxHeartbeats 8000000 in
theorem orders15_b2 (oa ob : Int) (ta tb : ByteArray) (w : World) (g : Gd w) (hsz : [ta, tb].all sz24 = true) (hea : CErr oa ta 0) (heb : CErr ob tb 2) : Calls Tryz.prog 10 #[.agg #[.int .i64 oa, .string ta], .agg #[.int .i64 ob, .string tb]] w (Ret w (.bool true)) := by
  have HEA := Lib.hid hea
  have HEB := Lib.hid heb
  have HG := Lib.hid g
  clear hea heb g
  have HSZ := Lib.hid hsz; clear hsz
  go_enter Tryz.func10, Tryz.ntmps10
  go_wp2_with fail
  refine (known15_c _ (HG.out.ext (((Ext.refl w).alloc _).alloc _))).mono ?_; rintro e w1 ⟨rfl, e1⟩
  have HX1 : Hid (Ext w w1) := Lib.hid ((((Ext.refl w).alloc _).alloc _).trans e1)
  have HB0_1 : Hid (Blk w1 (w.heap.size) #[.int .i64 oa, .string ta] 28) := Lib.hid (Blk.ext ((Blk.new' (w := _) (cs := #[.int .i64 oa, .string ta]) (t := 28) (by first | rfl | (simp only [World.size_alloc]; done) | (simp only [World.size_alloc]; omega) | simp)).alloc _) e1)
  have HB1_1 : Hid (Blk w1 (w.heap.size + 1) #[.int .i64 ob, .string tb] 28) := Lib.hid (Blk.ext (Blk.new' (w := _) (cs := #[.int .i64 ob, .string tb]) (t := 28) (by first | rfl | (simp only [World.size_alloc]; done) | (simp only [World.size_alloc]; omega) | simp)) e1)
  have HGEB0 : Hid (w.heap.size ≤ w.heap.size) := Lib.hid (by first | omega | (simp only []; omega) | (simp; omega))
  have HGEB1 : Hid (w.heap.size ≤ w.heap.size + 1) := Lib.hid (by first | omega | (simp only []; omega) | (simp; omega))
  clear e1
  have c0_1 := HB0_1.out.cell 1 rfl
  have c1_1 := HB1_1.out.cell 1 rfl
  go_wp2_with fail
  refine (short15_b [ta, tb] 2 (w1.heap.size) true _ rfl (by decide) HSZ.out (Blk.new' (w := _) (cs := #[.string ta, .string tb]) (t := 22) (by first | rfl | (simp only [World.size_alloc]; done) | (simp only [World.size_alloc]; omega) | simp))).mono ?_; rintro e w2 ⟨rfl, e2⟩
  have HX2 : Hid (Ext w w2) := Lib.hid ((HX1.out.alloc _).trans e2)
  have HB0_2 : Hid (Blk w2 (w.heap.size) #[.int .i64 oa, .string ta] 28) := Lib.hid (Blk.ext (HB0_1.out.alloc _) e2)
  have HB1_2 : Hid (Blk w2 (w.heap.size + 1) #[.int .i64 ob, .string tb] 28) := Lib.hid (Blk.ext (HB1_1.out.alloc _) e2)
  have HB2_2 : Hid (Blk w2 (w1.heap.size) #[.string ta, .string tb] 22) := Lib.hid (Blk.ext (Blk.new' (w := _) (cs := #[.string ta, .string tb]) (t := 22) (by first | rfl | (simp only [World.size_alloc]; done) | (simp only [World.size_alloc]; omega) | simp)) e2)
  have HGEB2 : Hid (w.heap.size ≤ w1.heap.size) := Lib.hid (by have := HX1.out.size; first | omega | (simp only []; omega) | (simp; omega))
  clear e2 c0_1 c1_1
  have c0_0 := HB0_2.out.cell 0 rfl
  have c0_1 := HB0_2.out.cell 1 rfl
  have c1_0 := HB1_2.out.cell 0 rfl
  have c1_1 := HB1_2.out.cell 1 rfl
  go_wp2_with fail
  refine (abefore_b2 oa ob ta tb _ (HG.out.ext HX2.out) HEA.out HEB.out).mono ?_; rintro e w3 ⟨rfl, e3⟩
  have HX3 : Hid (Ext w w3) := Lib.hid (HX2.out.trans e3)
  have HB0_3 := Lib.hid (Blk.ext HB0_2.out e3)
  have HB1_3 := Lib.hid (Blk.ext HB1_2.out e3)
  clear e3 c0_0 c0_1 c1_0 c1_1
  have c0_0 := HB0_3.out.cell 0 rfl
  have c0_1 := HB0_3.out.cell 1 rfl
  go_wp2_with fail
  refine (lcheck_c _ (HG.out.ext HX3.out) HEA.out).mono ?_; rintro e w4 ⟨rfl, e4⟩
  have HX4 : Hid (Ext w w4) := Lib.hid (HX3.out.trans e4)
  have HB1_4 := Lib.hid (Blk.ext HB1_3.out e4)
  clear e4 c0_0 c0_1
  have c1_0 := HB1_4.out.cell 0 rfl
  have c1_1 := HB1_4.out.cell 1 rfl
  go_wp2_with fail
  refine (lcheck_c _ (HG.out.ext HX4.out) HEB.out).mono ?_; rintro e w5 ⟨rfl, e5⟩
  have HX5 : Hid (Ext w w5) := Lib.hid (HX4.out.trans e5)
  clear e5 c1_0 c1_1
  go_wp2
  go_ret
  exact ⟨rfl, HX5.out⟩

set_option maxRecDepth 100000 in
set_option maxHeartbeats 8000000 in
theorem orders15_a3 (oa ob : Int) (ta tb : ByteArray) (w : World) (g : Gd w) (hsz : [ta, tb].all sz24 = true) (hea : CErr oa ta 3) : Calls Tryz.prog 10 #[.agg #[.int .i64 oa, .string ta], .agg #[.int .i64 ob, .string tb]] w (Ret w (.bool true)) := by
  have HEA := Lib.hid hea
  have HG := Lib.hid g
  clear hea g
  have HSZ := Lib.hid hsz; clear hsz
  go_enter Tryz.func10, Tryz.ntmps10
  go_wp2_with fail
  refine (known15_c _ (HG.out.ext (((Ext.refl w).alloc _).alloc _))).mono ?_; rintro e w1 ⟨rfl, e1⟩
  have HX1 : Hid (Ext w w1) := Lib.hid ((((Ext.refl w).alloc _).alloc _).trans e1)
  have HB0_1 : Hid (Blk w1 (w.heap.size) #[.int .i64 oa, .string ta] 28) := Lib.hid (Blk.ext ((Blk.new' (w := _) (cs := #[.int .i64 oa, .string ta]) (t := 28) (by first | rfl | (simp only [World.size_alloc]; done) | (simp only [World.size_alloc]; omega) | simp)).alloc _) e1)
  have HB1_1 : Hid (Blk w1 (w.heap.size + 1) #[.int .i64 ob, .string tb] 28) := Lib.hid (Blk.ext (Blk.new' (w := _) (cs := #[.int .i64 ob, .string tb]) (t := 28) (by first | rfl | (simp only [World.size_alloc]; done) | (simp only [World.size_alloc]; omega) | simp)) e1)
  have HGEB0 : Hid (w.heap.size ≤ w.heap.size) := Lib.hid (by first | omega | (simp only []; omega) | (simp; omega))
  have HGEB1 : Hid (w.heap.size ≤ w.heap.size + 1) := Lib.hid (by first | omega | (simp only []; omega) | (simp; omega))
  clear e1
  have c0_1 := HB0_1.out.cell 1 rfl
  have c1_1 := HB1_1.out.cell 1 rfl
  go_wp2_with fail
  refine (short15_b [ta, tb] 2 (w1.heap.size) true _ rfl (by decide) HSZ.out (Blk.new' (w := _) (cs := #[.string ta, .string tb]) (t := 22) (by first | rfl | (simp only [World.size_alloc]; done) | (simp only [World.size_alloc]; omega) | simp))).mono ?_; rintro e w2 ⟨rfl, e2⟩
  have HX2 : Hid (Ext w w2) := Lib.hid ((HX1.out.alloc _).trans e2)
  have HB0_2 : Hid (Blk w2 (w.heap.size) #[.int .i64 oa, .string ta] 28) := Lib.hid (Blk.ext (HB0_1.out.alloc _) e2)
  have HB1_2 : Hid (Blk w2 (w.heap.size + 1) #[.int .i64 ob, .string tb] 28) := Lib.hid (Blk.ext (HB1_1.out.alloc _) e2)
  have HB2_2 : Hid (Blk w2 (w1.heap.size) #[.string ta, .string tb] 22) := Lib.hid (Blk.ext (Blk.new' (w := _) (cs := #[.string ta, .string tb]) (t := 22) (by first | rfl | (simp only [World.size_alloc]; done) | (simp only [World.size_alloc]; omega) | simp)) e2)
  have HGEB2 : Hid (w.heap.size ≤ w1.heap.size) := Lib.hid (by have := HX1.out.size; first | omega | (simp only []; omega) | (simp; omega))
  clear e2 c0_1 c1_1
  have c0_0 := HB0_2.out.cell 0 rfl
  have c0_1 := HB0_2.out.cell 1 rfl
  have c1_0 := HB1_2.out.cell 0 rfl
  have c1_1 := HB1_2.out.cell 1 rfl
  go_wp2_with fail
  refine (abefore_a3 oa ob ta tb _ (HG.out.ext HX2.out) HEA.out).mono ?_; rintro e w3 ⟨rfl, e3⟩
  have HX3 : Hid (Ext w w3) := Lib.hid (HX2.out.trans e3)
  have HB0_3 := Lib.hid (Blk.ext HB0_2.out e3)
  clear e3 c0_0 c0_1 c1_0 c1_1
  have c0_0 := HB0_3.out.cell 0 rfl
  have c0_1 := HB0_3.out.cell 1 rfl
  go_wp2_with fail
  refine (lcheck_c _ (HG.out.ext HX3.out) HEA.out).mono ?_; rintro e w4 ⟨rfl, e4⟩
  have HX4 : Hid (Ext w w4) := Lib.hid (HX3.out.trans e4)
  clear e4 c0_0 c0_1
  go_wp2
  go_ret
  exact ⟨rfl, HX4.out⟩

set_option maxRecDepth 100000 in
set_option maxHeartbeats 8000000 in
theorem orders15_b3 (oa ob : Int) (ta tb : ByteArray) (w : World) (g : Gd w) (hsz : [ta, tb].all sz24 = true) (hea : CErr oa ta 0) (heb : CErr ob tb 3) : Calls Tryz.prog 10 #[.agg #[.int .i64 oa, .string ta], .agg #[.int .i64 ob, .string tb]] w (Ret w (.bool true)) := by
  have HEA := Lib.hid hea
  have HEB := Lib.hid heb
  have HG := Lib.hid g
  clear hea heb g
  have HSZ := Lib.hid hsz; clear hsz
  go_enter Tryz.func10, Tryz.ntmps10
  go_wp2_with fail
  refine (known15_c _ (HG.out.ext (((Ext.refl w).alloc _).alloc _))).mono ?_; rintro e w1 ⟨rfl, e1⟩
  have HX1 : Hid (Ext w w1) := Lib.hid ((((Ext.refl w).alloc _).alloc _).trans e1)
  have HB0_1 : Hid (Blk w1 (w.heap.size) #[.int .i64 oa, .string ta] 28) := Lib.hid (Blk.ext ((Blk.new' (w := _) (cs := #[.int .i64 oa, .string ta]) (t := 28) (by first | rfl | (simp only [World.size_alloc]; done) | (simp only [World.size_alloc]; omega) | simp)).alloc _) e1)
  have HB1_1 : Hid (Blk w1 (w.heap.size + 1) #[.int .i64 ob, .string tb] 28) := Lib.hid (Blk.ext (Blk.new' (w := _) (cs := #[.int .i64 ob, .string tb]) (t := 28) (by first | rfl | (simp only [World.size_alloc]; done) | (simp only [World.size_alloc]; omega) | simp)) e1)
  have HGEB0 : Hid (w.heap.size ≤ w.heap.size) := Lib.hid (by first | omega | (simp only []; omega) | (simp; omega))
  have HGEB1 : Hid (w.heap.size ≤ w.heap.size + 1) := Lib.hid (by first | omega | (simp only []; omega) | (simp; omega))
  clear e1
  have c0_1 := HB0_1.out.cell 1 rfl
  have c1_1 := HB1_1.out.cell 1 rfl
  go_wp2_with fail
  refine (short15_b [ta, tb] 2 (w1.heap.size) true _ rfl (by decide) HSZ.out (Blk.new' (w := _) (cs := #[.string ta, .string tb]) (t := 22) (by first | rfl | (simp only [World.size_alloc]; done) | (simp only [World.size_alloc]; omega) | simp))).mono ?_; rintro e w2 ⟨rfl, e2⟩
  have HX2 : Hid (Ext w w2) := Lib.hid ((HX1.out.alloc _).trans e2)
  have HB0_2 : Hid (Blk w2 (w.heap.size) #[.int .i64 oa, .string ta] 28) := Lib.hid (Blk.ext (HB0_1.out.alloc _) e2)
  have HB1_2 : Hid (Blk w2 (w.heap.size + 1) #[.int .i64 ob, .string tb] 28) := Lib.hid (Blk.ext (HB1_1.out.alloc _) e2)
  have HB2_2 : Hid (Blk w2 (w1.heap.size) #[.string ta, .string tb] 22) := Lib.hid (Blk.ext (Blk.new' (w := _) (cs := #[.string ta, .string tb]) (t := 22) (by first | rfl | (simp only [World.size_alloc]; done) | (simp only [World.size_alloc]; omega) | simp)) e2)
  have HGEB2 : Hid (w.heap.size ≤ w1.heap.size) := Lib.hid (by have := HX1.out.size; first | omega | (simp only []; omega) | (simp; omega))
  clear e2 c0_1 c1_1
  have c0_0 := HB0_2.out.cell 0 rfl
  have c0_1 := HB0_2.out.cell 1 rfl
  have c1_0 := HB1_2.out.cell 0 rfl
  have c1_1 := HB1_2.out.cell 1 rfl
  go_wp2_with fail
  refine (abefore_b3 oa ob ta tb _ (HG.out.ext HX2.out) HEA.out HEB.out).mono ?_; rintro e w3 ⟨rfl, e3⟩
  have HX3 : Hid (Ext w w3) := Lib.hid (HX2.out.trans e3)
  have HB0_3 := Lib.hid (Blk.ext HB0_2.out e3)
  have HB1_3 := Lib.hid (Blk.ext HB1_2.out e3)
  clear e3 c0_0 c0_1 c1_0 c1_1
  have c0_0 := HB0_3.out.cell 0 rfl
  have c0_1 := HB0_3.out.cell 1 rfl
  go_wp2_with fail
  refine (lcheck_c _ (HG.out.ext HX3.out) HEA.out).mono ?_; rintro e w4 ⟨rfl, e4⟩
  have HX4 : Hid (Ext w w4) := Lib.hid (HX3.out.trans e4)
  have HB1_4 := Lib.hid (Blk.ext HB1_3.out e4)
  clear e4 c0_0 c0_1
  have c1_0 := HB1_4.out.cell 0 rfl
  have c1_1 := HB1_4.out.cell 1 rfl
  go_wp2_with fail
  refine (lcheck_c _ (HG.out.ext HX4.out) HEB.out).mono ?_; rintro e w5 ⟨rfl, e5⟩
  have HX5 : Hid (Ext w w5) := Lib.hid (HX4.out.trans e5)
  clear e5 c1_0 c1_1
  go_wp2
  go_ret
  exact ⟨rfl, HX5.out⟩

set_option maxRecDepth 100000 in
set_option maxHeartbeats 8000000 in
theorem orders15_lt (oa ob : Int) (p q : Rat) (w : World) (g : Gd w) (hsz : [qs p, qs q].all sz24 = true) (hpp : QB 200 p) (hqq : QB 200 q) (hea : CErr oa (qs p) 0) (heb : CErr ob (qs q) 0) (hlt : oa < ob) : Calls Tryz.prog 10 #[.agg #[.int .i64 oa, .string (qs p)], .agg #[.int .i64 ob, .string (qs q)]] w (Ret w (.bool true)) := by
  have HP := Lib.hid hpp
  have HQ := Lib.hid hqq
  have HEA := Lib.hid hea
  have HEB := Lib.hid heb
  have HG := Lib.hid g
  clear hpp hqq hea heb g
  have HSZ := Lib.hid hsz; clear hsz
  have HLT := Lib.hid hlt
  have hlt_d : decide (oa < ob) = true := decide_eq_true (by omega)
  clear hlt
  go_enter Tryz.func10, Tryz.ntmps10
  go_wp2_with fail
  refine (known15_c _ (HG.out.ext (((Ext.refl w).alloc _).alloc _))).mono ?_; rintro e w1 ⟨rfl, e1⟩
  have HX1 : Hid (Ext w w1) := Lib.hid ((((Ext.refl w).alloc _).alloc _).trans e1)
  have HB0_1 : Hid (Blk w1 (w.heap.size) #[.int .i64 oa, .string (qs p)] 28) := Lib.hid (Blk.ext ((Blk.new' (w := _) (cs := #[.int .i64 oa, .string (qs p)]) (t := 28) (by first | rfl | (simp only [World.size_alloc]; done) | (simp only [World.size_alloc]; omega) | simp)).alloc _) e1)
  have HB1_1 : Hid (Blk w1 (w.heap.size + 1) #[.int .i64 ob, .string (qs q)] 28) := Lib.hid (Blk.ext (Blk.new' (w := _) (cs := #[.int .i64 ob, .string (qs q)]) (t := 28) (by first | rfl | (simp only [World.size_alloc]; done) | (simp only [World.size_alloc]; omega) | simp)) e1)
  have HGEB0 : Hid (w.heap.size ≤ w.heap.size) := Lib.hid (by first | omega | (simp only []; omega) | (simp; omega))
  have HGEB1 : Hid (w.heap.size ≤ w.heap.size + 1) := Lib.hid (by first | omega | (simp only []; omega) | (simp; omega))
  clear e1
  have c0_1 := HB0_1.out.cell 1 rfl
  have c1_1 := HB1_1.out.cell 1 rfl
  go_wp2_with fail
  refine (short15_b [qs p, qs q] 2 (w1.heap.size) true _ rfl (by decide) HSZ.out (Blk.new' (w := _) (cs := #[.string (qs p), .string (qs q)]) (t := 22) (by first | rfl | (simp only [World.size_alloc]; done) | (simp only [World.size_alloc]; omega) | simp))).mono ?_; rintro e w2 ⟨rfl, e2⟩
  have HX2 : Hid (Ext w w2) := Lib.hid ((HX1.out.alloc _).trans e2)
  have HB0_2 : Hid (Blk w2 (w.heap.size) #[.int .i64 oa, .string (qs p)] 28) := Lib.hid (Blk.ext (HB0_1.out.alloc _) e2)
  have HB1_2 : Hid (Blk w2 (w.heap.size + 1) #[.int .i64 ob, .string (qs q)] 28) := Lib.hid (Blk.ext (HB1_1.out.alloc _) e2)
  have HB2_2 : Hid (Blk w2 (w1.heap.size) #[.string (qs p), .string (qs q)] 22) := Lib.hid (Blk.ext (Blk.new' (w := _) (cs := #[.string (qs p), .string (qs q)]) (t := 22) (by first | rfl | (simp only [World.size_alloc]; done) | (simp only [World.size_alloc]; omega) | simp)) e2)
  have HGEB2 : Hid (w.heap.size ≤ w1.heap.size) := Lib.hid (by have := HX1.out.size; first | omega | (simp only []; omega) | (simp; omega))
  clear e2 c0_1 c1_1
  have c0_0 := HB0_2.out.cell 0 rfl
  have c0_1 := HB0_2.out.cell 1 rfl
  have c1_0 := HB1_2.out.cell 0 rfl
  have c1_1 := HB1_2.out.cell 1 rfl
  go_wp2_with fail
  refine (abefore_lt oa ob p q _ (HG.out.ext HX2.out) HP.out HQ.out HEA.out HEB.out HLT.out).mono ?_; rintro e w3 ⟨rfl, e3⟩
  have HX3 : Hid (Ext w w3) := Lib.hid (HX2.out.trans e3)
  have HB0_3 := Lib.hid (Blk.ext HB0_2.out e3)
  have HB1_3 := Lib.hid (Blk.ext HB1_2.out e3)
  clear e3 c0_0 c0_1 c1_0 c1_1
  have c0_0 := HB0_3.out.cell 0 rfl
  have c0_1 := HB0_3.out.cell 1 rfl
  go_wp2_with fail
  refine (lcheck_c _ (HG.out.ext HX3.out) HEA.out).mono ?_; rintro e w4 ⟨rfl, e4⟩
  have HX4 : Hid (Ext w w4) := Lib.hid (HX3.out.trans e4)
  have HB0_4 := Lib.hid (Blk.ext HB0_3.out e4)
  have HB1_4 := Lib.hid (Blk.ext HB1_3.out e4)
  clear e4 c0_0 c0_1
  have c1_0 := HB1_4.out.cell 0 rfl
  have c1_1 := HB1_4.out.cell 1 rfl
  go_wp2_with fail
  refine (lcheck_c _ (HG.out.ext HX4.out) HEB.out).mono ?_; rintro e w5 ⟨rfl, e5⟩
  have HX5 : Hid (Ext w w5) := Lib.hid (HX4.out.trans e5)
  have HB0_5 := Lib.hid (Blk.ext HB0_4.out e5)
  have HB1_5 := Lib.hid (Blk.ext HB1_4.out e5)
  clear e5 c1_0 c1_1
  have c0_1 := HB0_5.out.cell 1 rfl
  have c1_1 := HB1_5.out.cell 1 rfl
  go_wp2_with fail
  refine (rcompare_c p q _ (HG.out.ext HX5.out) HP.out HQ.out (by omega) (by omega)).mono ?_; rintro e w6 ⟨rfl, e6⟩
  have HX6 : Hid (Ext w w6) := Lib.hid (HX5.out.trans e6)
  have HB0_6 := Lib.hid (Blk.ext HB0_5.out e6)
  have HB1_6 := Lib.hid (Blk.ext HB1_5.out e6)
  clear e6 c0_1 c1_1
  have c0_0 := HB0_6.out.cell 0 rfl
  have c1_0 := HB1_6.out.cell 0 rfl
  go_wp2
  go_ret
  exact ⟨rfl, HX6.out⟩

set_option maxRecDepth 100000 in
set_option maxHeartbeats 8000000 in
theorem orders15_gt (oa ob : Int) (p q : Rat) (w : World) (g : Gd w) (hsz : [qs p, qs q].all sz24 = true) (hpp : QB 200 p) (hqq : QB 200 q) (hea : CErr oa (qs p) 0) (heb : CErr ob (qs q) 0) (hlt : ob ≤ oa) (hgt : ob < oa) : Calls Tryz.prog 10 #[.agg #[.int .i64 oa, .string (qs p)], .agg #[.int .i64 ob, .string (qs q)]] w (Ret w (.bool true)) := by
  have HP := Lib.hid hpp
  have HQ := Lib.hid hqq
  have HEA := Lib.hid hea
  have HEB := Lib.hid heb
  have HG := Lib.hid g
  clear hpp hqq hea heb g
  have HSZ := Lib.hid hsz; clear hsz
  have HLT := Lib.hid hlt
  have HGT := Lib.hid hgt
  have hlt_d : decide (oa < ob) = false := decide_eq_false (by omega)
  have hgt_d : decide (ob < oa) = true := decide_eq_true (by omega)
  clear hlt hgt
  go_enter Tryz.func10, Tryz.ntmps10
  go_wp2_with fail
  refine (known15_c _ (HG.out.ext (((Ext.refl w).alloc _).alloc _))).mono ?_; rintro e w1 ⟨rfl, e1⟩
  have HX1 : Hid (Ext w w1) := Lib.hid ((((Ext.refl w).alloc _).alloc _).trans e1)
  have HB0_1 : Hid (Blk w1 (w.heap.size) #[.int .i64 oa, .string (qs p)] 28) := Lib.hid (Blk.ext ((Blk.new' (w := _) (cs := #[.int .i64 oa, .string (qs p)]) (t := 28) (by first | rfl | (simp only [World.size_alloc]; done) | (simp only [World.size_alloc]; omega) | simp)).alloc _) e1)
  have HB1_1 : Hid (Blk w1 (w.heap.size + 1) #[.int .i64 ob, .string (qs q)] 28) := Lib.hid (Blk.ext (Blk.new' (w := _) (cs := #[.int .i64 ob, .string (qs q)]) (t := 28) (by first | rfl | (simp only [World.size_alloc]; done) | (simp only [World.size_alloc]; omega) | simp)) e1)
  have HGEB0 : Hid (w.heap.size ≤ w.heap.size) := Lib.hid (by first | omega | (simp only []; omega) | (simp; omega))
  have HGEB1 : Hid (w.heap.size ≤ w.heap.size + 1) := Lib.hid (by first | omega | (simp only []; omega) | (simp; omega))
  clear e1
  have c0_1 := HB0_1.out.cell 1 rfl
  have c1_1 := HB1_1.out.cell 1 rfl
  go_wp2_with fail
  refine (short15_b [qs p, qs q] 2 (w1.heap.size) true _ rfl (by decide) HSZ.out (Blk.new' (w := _) (cs := #[.string (qs p), .string (qs q)]) (t := 22) (by first | rfl | (simp only [World.size_alloc]; done) | (simp only [World.size_alloc]; omega) | simp))).mono ?_; rintro e w2 ⟨rfl, e2⟩
  have HX2 : Hid (Ext w w2) := Lib.hid ((HX1.out.alloc _).trans e2)
  have HB0_2 : Hid (Blk w2 (w.heap.size) #[.int .i64 oa, .string (qs p)] 28) := Lib.hid (Blk.ext (HB0_1.out.alloc _) e2)
  have HB1_2 : Hid (Blk w2 (w.heap.size + 1) #[.int .i64 ob, .string (qs q)] 28) := Lib.hid (Blk.ext (HB1_1.out.alloc _) e2)
  have HB2_2 : Hid (Blk w2 (w1.heap.size) #[.string (qs p), .string (qs q)] 22) := Lib.hid (Blk.ext (Blk.new' (w := _) (cs := #[.string (qs p), .string (qs q)]) (t := 22) (by first | rfl | (simp only [World.size_alloc]; done) | (simp only [World.size_alloc]; omega) | simp)) e2)
  have HGEB2 : Hid (w.heap.size ≤ w1.heap.size) := Lib.hid (by have := HX1.out.size; first | omega | (simp only []; omega) | (simp; omega))
  clear e2 c0_1 c1_1
  have c0_0 := HB0_2.out.cell 0 rfl
  have c0_1 := HB0_2.out.cell 1 rfl
  have c1_0 := HB1_2.out.cell 0 rfl
  have c1_1 := HB1_2.out.cell 1 rfl
  go_wp2_with fail
  refine (abefore_gt oa ob p q _ (HG.out.ext HX2.out) HP.out HQ.out HEA.out HEB.out HLT.out HGT.out).mono ?_; rintro e w3 ⟨rfl, e3⟩
  have HX3 : Hid (Ext w w3) := Lib.hid (HX2.out.trans e3)
  have HB0_3 := Lib.hid (Blk.ext HB0_2.out e3)
  have HB1_3 := Lib.hid (Blk.ext HB1_2.out e3)
  clear e3 c0_0 c0_1 c1_0 c1_1
  have c0_0 := HB0_3.out.cell 0 rfl
  have c0_1 := HB0_3.out.cell 1 rfl
  go_wp2_with fail
  refine (lcheck_c _ (HG.out.ext HX3.out) HEA.out).mono ?_; rintro e w4 ⟨rfl, e4⟩
  have HX4 : Hid (Ext w w4) := Lib.hid (HX3.out.trans e4)
  have HB0_4 := Lib.hid (Blk.ext HB0_3.out e4)
  have HB1_4 := Lib.hid (Blk.ext HB1_3.out e4)
  clear e4 c0_0 c0_1
  have c1_0 := HB1_4.out.cell 0 rfl
  have c1_1 := HB1_4.out.cell 1 rfl
  go_wp2_with fail
  refine (lcheck_c _ (HG.out.ext HX4.out) HEB.out).mono ?_; rintro e w5 ⟨rfl, e5⟩
  have HX5 : Hid (Ext w w5) := Lib.hid (HX4.out.trans e5)
  have HB0_5 := Lib.hid (Blk.ext HB0_4.out e5)
  have HB1_5 := Lib.hid (Blk.ext HB1_4.out e5)
  clear e5 c1_0 c1_1
  have c0_1 := HB0_5.out.cell 1 rfl
  have c1_1 := HB1_5.out.cell 1 rfl
  go_wp2_with fail
  refine (rcompare_c p q _ (HG.out.ext HX5.out) HP.out HQ.out (by omega) (by omega)).mono ?_; rintro e w6 ⟨rfl, e6⟩
  have HX6 : Hid (Ext w w6) := Lib.hid (HX5.out.trans e6)
  have HB0_6 := Lib.hid (Blk.ext HB0_5.out e6)
  have HB1_6 := Lib.hid (Blk.ext HB1_5.out e6)
  clear e6 c0_1 c1_1
  have c0_0 := HB0_6.out.cell 0 rfl
  have c1_0 := HB1_6.out.cell 0 rfl
  go_wp2
  go_ret
  exact ⟨rfl, HX6.out⟩

set_option maxRecDepth 100000 in
set_option maxHeartbeats 8000000 in
theorem orders15_ev (oa ob : Int) (p q : Rat) (w : World) (g : Gd w) (hsz : [qs p, qs q].all sz24 = true) (hpp : QB 200 p) (hqq : QB 200 q) (hea : CErr oa (qs p) 0) (heb : CErr ob (qs q) 0) (hlt : ob ≤ oa) (hgt : oa ≤ ob) (hp : oa.tmod 2 = 0) : Calls Tryz.prog 10 #[.agg #[.int .i64 oa, .string (qs p)], .agg #[.int .i64 ob, .string (qs q)]] w (Ret w (.bool true)) := by
  have HP := Lib.hid hpp
  have HQ := Lib.hid hqq
  have HEA := Lib.hid hea
  have HEB := Lib.hid heb
  have HG := Lib.hid g
  clear hpp hqq hea heb g
  have HSZ := Lib.hid hsz; clear hsz
  have HLT := Lib.hid hlt
  have HGT := Lib.hid hgt
  have HPAR := Lib.hid hp
  have hlt_d : decide (oa < ob) = false := decide_eq_false (by omega)
  have hgt_d : decide (ob < oa) = false := decide_eq_false (by omega)
  clear hlt hgt
  go_enter Tryz.func10, Tryz.ntmps10
  go_wp2_with fail
  refine (known15_c _ (HG.out.ext (((Ext.refl w).alloc _).alloc _))).mono ?_; rintro e w1 ⟨rfl, e1⟩
  have HX1 : Hid (Ext w w1) := Lib.hid ((((Ext.refl w).alloc _).alloc _).trans e1)
  have HB0_1 : Hid (Blk w1 (w.heap.size) #[.int .i64 oa, .string (qs p)] 28) := Lib.hid (Blk.ext ((Blk.new' (w := _) (cs := #[.int .i64 oa, .string (qs p)]) (t := 28) (by first | rfl | (simp only [World.size_alloc]; done) | (simp only [World.size_alloc]; omega) | simp)).alloc _) e1)
  have HB1_1 : Hid (Blk w1 (w.heap.size + 1) #[.int .i64 ob, .string (qs q)] 28) := Lib.hid (Blk.ext (Blk.new' (w := _) (cs := #[.int .i64 ob, .string (qs q)]) (t := 28) (by first | rfl | (simp only [World.size_alloc]; done) | (simp only [World.size_alloc]; omega) | simp)) e1)
  have HGEB0 : Hid (w.heap.size ≤ w.heap.size) := Lib.hid (by first | omega | (simp only []; omega) | (simp; omega))
  have HGEB1 : Hid (w.heap.size ≤ w.heap.size + 1) := Lib.hid (by first | omega | (simp only []; omega) | (simp; omega))
  clear e1
  have c0_1 := HB0_1.out.cell 1 rfl
  have c1_1 := HB1_1.out.cell 1 rfl
  go_wp2_with fail
  refine (short15_b [qs p, qs q] 2 (w1.heap.size) true _ rfl (by decide) HSZ.out (Blk.new' (w := _) (cs := #[.string (qs p), .string (qs q)]) (t := 22) (by first | rfl | (simp only [World.size_alloc]; done) | (simp only [World.size_alloc]; omega) | simp))).mono ?_; rintro e w2 ⟨rfl, e2⟩
  have HX2 : Hid (Ext w w2) := Lib.hid ((HX1.out.alloc _).trans e2)
  have HB0_2 : Hid (Blk w2 (w.heap.size) #[.int .i64 oa, .string (qs p)] 28) := Lib.hid (Blk.ext (HB0_1.out.alloc _) e2)
  have HB1_2 : Hid (Blk w2 (w.heap.size + 1) #[.int .i64 ob, .string (qs q)] 28) := Lib.hid (Blk.ext (HB1_1.out.alloc _) e2)
  have HB2_2 : Hid (Blk w2 (w1.heap.size) #[.string (qs p), .string (qs q)] 22) := Lib.hid (Blk.ext (Blk.new' (w := _) (cs := #[.string (qs p), .string (qs q)]) (t := 22) (by first | rfl | (simp only [World.size_alloc]; done) | (simp only [World.size_alloc]; omega) | simp)) e2)
  have HGEB2 : Hid (w.heap.size ≤ w1.heap.size) := Lib.hid (by have := HX1.out.size; first | omega | (simp only []; omega) | (simp; omega))
  clear e2 c0_1 c1_1
  have c0_0 := HB0_2.out.cell 0 rfl
  have c0_1 := HB0_2.out.cell 1 rfl
  have c1_0 := HB1_2.out.cell 0 rfl
  have c1_1 := HB1_2.out.cell 1 rfl
  go_wp2_with fail
  refine (abefore_ev oa ob p q _ (HG.out.ext HX2.out) HP.out HQ.out HEA.out HEB.out HLT.out HGT.out HPAR.out).mono ?_; rintro e w3 ⟨rfl, e3⟩
  have HX3 : Hid (Ext w w3) := Lib.hid (HX2.out.trans e3)
  have HB0_3 := Lib.hid (Blk.ext HB0_2.out e3)
  have HB1_3 := Lib.hid (Blk.ext HB1_2.out e3)
  clear e3 c0_0 c0_1 c1_0 c1_1
  have c0_0 := HB0_3.out.cell 0 rfl
  have c0_1 := HB0_3.out.cell 1 rfl
  go_wp2_with fail
  refine (lcheck_c _ (HG.out.ext HX3.out) HEA.out).mono ?_; rintro e w4 ⟨rfl, e4⟩
  have HX4 : Hid (Ext w w4) := Lib.hid (HX3.out.trans e4)
  have HB0_4 := Lib.hid (Blk.ext HB0_3.out e4)
  have HB1_4 := Lib.hid (Blk.ext HB1_3.out e4)
  clear e4 c0_0 c0_1
  have c1_0 := HB1_4.out.cell 0 rfl
  have c1_1 := HB1_4.out.cell 1 rfl
  go_wp2_with fail
  refine (lcheck_c _ (HG.out.ext HX4.out) HEB.out).mono ?_; rintro e w5 ⟨rfl, e5⟩
  have HX5 : Hid (Ext w w5) := Lib.hid (HX4.out.trans e5)
  have HB0_5 := Lib.hid (Blk.ext HB0_4.out e5)
  have HB1_5 := Lib.hid (Blk.ext HB1_4.out e5)
  clear e5 c1_0 c1_1
  have c0_1 := HB0_5.out.cell 1 rfl
  have c1_1 := HB1_5.out.cell 1 rfl
  go_wp2_with fail
  refine (rcompare_c p q _ (HG.out.ext HX5.out) HP.out HQ.out (by omega) (by omega)).mono ?_; rintro e w6 ⟨rfl, e6⟩
  have HX6 : Hid (Ext w w6) := Lib.hid (HX5.out.trans e6)
  have HB0_6 := Lib.hid (Blk.ext HB0_5.out e6)
  have HB1_6 := Lib.hid (Blk.ext HB1_5.out e6)
  clear e6 c0_1 c1_1
  have c0_0 := HB0_6.out.cell 0 rfl
  have c1_0 := HB1_6.out.cell 0 rfl
  go_wp2
  go_ret
  exact ⟨rfl, HX6.out⟩

set_option maxRecDepth 100000 in
set_option maxHeartbeats 8000000 in
theorem orders15_od (oa ob : Int) (p q : Rat) (w : World) (g : Gd w) (hsz : [qs p, qs q].all sz24 = true) (hpp : QB 200 p) (hqq : QB 200 q) (hea : CErr oa (qs p) 0) (heb : CErr ob (qs q) 0) (hlt : ob ≤ oa) (hgt : oa ≤ ob) (hp : oa.tmod 2 = 1) : Calls Tryz.prog 10 #[.agg #[.int .i64 oa, .string (qs p)], .agg #[.int .i64 ob, .string (qs q)]] w (Ret w (.bool true)) := by
  have HP := Lib.hid hpp
  have HQ := Lib.hid hqq
  have HEA := Lib.hid hea
  have HEB := Lib.hid heb
  have HG := Lib.hid g
  clear hpp hqq hea heb g
  have HSZ := Lib.hid hsz; clear hsz
  have HLT := Lib.hid hlt
  have HGT := Lib.hid hgt
  have HPAR := Lib.hid hp
  have hlt_d : decide (oa < ob) = false := decide_eq_false (by omega)
  have hgt_d : decide (ob < oa) = false := decide_eq_false (by omega)
  clear hlt hgt
  have HBD := qcmp_bd9 p q
  go_enter Tryz.func10, Tryz.ntmps10
  go_wp2_with fail
  refine (known15_c _ (HG.out.ext (((Ext.refl w).alloc _).alloc _))).mono ?_; rintro e w1 ⟨rfl, e1⟩
  have HX1 : Hid (Ext w w1) := Lib.hid ((((Ext.refl w).alloc _).alloc _).trans e1)
  have HB0_1 : Hid (Blk w1 (w.heap.size) #[.int .i64 oa, .string (qs p)] 28) := Lib.hid (Blk.ext ((Blk.new' (w := _) (cs := #[.int .i64 oa, .string (qs p)]) (t := 28) (by first | rfl | (simp only [World.size_alloc]; done) | (simp only [World.size_alloc]; omega) | simp)).alloc _) e1)
  have HB1_1 : Hid (Blk w1 (w.heap.size + 1) #[.int .i64 ob, .string (qs q)] 28) := Lib.hid (Blk.ext (Blk.new' (w := _) (cs := #[.int .i64 ob, .string (qs q)]) (t := 28) (by first | rfl | (simp only [World.size_alloc]; done) | (simp only [World.size_alloc]; omega) | simp)) e1)
  have HGEB0 : Hid (w.heap.size ≤ w.heap.size) := Lib.hid (by first | omega | (simp only []; omega) | (simp; omega))
  have HGEB1 : Hid (w.heap.size ≤ w.heap.size + 1) := Lib.hid (by first | omega | (simp only []; omega) | (simp; omega))
  clear e1
  have c0_1 := HB0_1.out.cell 1 rfl
  have c1_1 := HB1_1.out.cell 1 rfl
  go_wp2_with fail
  refine (short15_b [qs p, qs q] 2 (w1.heap.size) true _ rfl (by decide) HSZ.out (Blk.new' (w := _) (cs := #[.string (qs p), .string (qs q)]) (t := 22) (by first | rfl | (simp only [World.size_alloc]; done) | (simp only [World.size_alloc]; omega) | simp))).mono ?_; rintro e w2 ⟨rfl, e2⟩
  have HX2 : Hid (Ext w w2) := Lib.hid ((HX1.out.alloc _).trans e2)
  have HB0_2 : Hid (Blk w2 (w.heap.size) #[.int .i64 oa, .string (qs p)] 28) := Lib.hid (Blk.ext (HB0_1.out.alloc _) e2)
  have HB1_2 : Hid (Blk w2 (w.heap.size + 1) #[.int .i64 ob, .string (qs q)] 28) := Lib.hid (Blk.ext (HB1_1.out.alloc _) e2)
  have HB2_2 : Hid (Blk w2 (w1.heap.size) #[.string (qs p), .string (qs q)] 22) := Lib.hid (Blk.ext (Blk.new' (w := _) (cs := #[.string (qs p), .string (qs q)]) (t := 22) (by first | rfl | (simp only [World.size_alloc]; done) | (simp only [World.size_alloc]; omega) | simp)) e2)
  have HGEB2 : Hid (w.heap.size ≤ w1.heap.size) := Lib.hid (by have := HX1.out.size; first | omega | (simp only []; omega) | (simp; omega))
  clear e2 c0_1 c1_1
  have c0_0 := HB0_2.out.cell 0 rfl
  have c0_1 := HB0_2.out.cell 1 rfl
  have c1_0 := HB1_2.out.cell 0 rfl
  have c1_1 := HB1_2.out.cell 1 rfl
  go_wp2_with fail
  refine ((qcmp_swap p q ▸ abefore_od oa ob p q _ (HG.out.ext HX2.out) HP.out HQ.out HEA.out HEB.out HLT.out HGT.out HPAR.out)).mono ?_; rintro e w3 ⟨rfl, e3⟩
  have HX3 : Hid (Ext w w3) := Lib.hid (HX2.out.trans e3)
  have HB0_3 := Lib.hid (Blk.ext HB0_2.out e3)
  have HB1_3 := Lib.hid (Blk.ext HB1_2.out e3)
  clear e3 c0_0 c0_1 c1_0 c1_1
  have c0_0 := HB0_3.out.cell 0 rfl
  have c0_1 := HB0_3.out.cell 1 rfl
  go_wp2_with fail
  refine (lcheck_c _ (HG.out.ext HX3.out) HEA.out).mono ?_; rintro e w4 ⟨rfl, e4⟩
  have HX4 : Hid (Ext w w4) := Lib.hid (HX3.out.trans e4)
  have HB0_4 := Lib.hid (Blk.ext HB0_3.out e4)
  have HB1_4 := Lib.hid (Blk.ext HB1_3.out e4)
  clear e4 c0_0 c0_1
  have c1_0 := HB1_4.out.cell 0 rfl
  have c1_1 := HB1_4.out.cell 1 rfl
  go_wp2_with fail
  refine (lcheck_c _ (HG.out.ext HX4.out) HEB.out).mono ?_; rintro e w5 ⟨rfl, e5⟩
  have HX5 : Hid (Ext w w5) := Lib.hid (HX4.out.trans e5)
  have HB0_5 := Lib.hid (Blk.ext HB0_4.out e5)
  have HB1_5 := Lib.hid (Blk.ext HB1_4.out e5)
  clear e5 c1_0 c1_1
  have c0_1 := HB0_5.out.cell 1 rfl
  have c1_1 := HB1_5.out.cell 1 rfl
  go_wp2_with fail
  refine (rcompare_c p q _ (HG.out.ext HX5.out) HP.out HQ.out (by omega) (by omega)).mono ?_; rintro e w6 ⟨rfl, e6⟩
  have HX6 : Hid (Ext w w6) := Lib.hid (HX5.out.trans e6)
  have HB0_6 := Lib.hid (Blk.ext HB0_5.out e6)
  have HB1_6 := Lib.hid (Blk.ext HB1_5.out e6)
  clear e6 c0_1 c1_1
  have c0_0 := HB0_6.out.cell 0 rfl
  have c1_0 := HB1_6.out.cell 0 rfl
  go_wp2
  go_ret
  exact ⟨rfl, HX6.out⟩

theorem orders15_walk (oa ob : Int) (ta tb : ByteArray) (w : World) (g : Gd w) : Calls Tryz.prog 10 #[.agg #[.int .i64 oa, .string ta], .agg #[.int .i64 ob, .string tb]] w (Ret w (.bool true)) := by
  cases hs : [ta, tb].all sz24 with
  | false => exact orders15_L oa ob ta tb w g hs
  | true =>
    have hs2 := hs
    simp only [List.all_cons, List.all_nil, Bool.and_true, Bool.and_eq_true, sz24_true] at hs2
    obtain ⟨ea, ha⟩ := cerr_ex oa (t := ta) (Nat.le_trans hs2.1 (by decide))
    obtain ⟨eb, hb⟩ := cerr_ex ob (t := tb) (Nat.le_trans hs2.2 (by decide))
    rcases cerr_val ha with rfl | rfl | rfl
    · rcases cerr_val hb with rfl | rfl | rfl
      · obtain ⟨p, rfl, hp⟩ := cerr_ok ha
        obtain ⟨q, rfl, hq⟩ := cerr_ok hb
        by_cases hlt : oa < ob
        · exact orders15_lt oa ob p q w g hs hp hq ha hb hlt
        · by_cases hgt : ob < oa
          · exact orders15_gt oa ob p q w g hs hp hq ha hb (by omega) hgt
          · rcases par2 (cerr_par ha rfl) with hm | hm
            · exact orders15_ev oa ob p q w g hs hp hq ha hb (by omega) (by omega) hm
            · exact orders15_od oa ob p q w g hs hp hq ha hb (by omega) (by omega) hm
      · exact orders15_b2 oa ob ta tb w g hs ha hb
      · exact orders15_b3 oa ob ta tb w g hs ha hb
    · exact orders15_a2 oa ob ta tb w g hs ha
    · exact orders15_a3 oa ob ta tb w g hs ha
end Go.Proofs.YtplimbgaoengfaaGreatDoor
