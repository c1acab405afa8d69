/- Part 43 of the proof: L12. -/
import Derived.Test.YtglppcmegocphaaGreatDoorQU1
import Derived.Test.YtglppcmegocphaaGreatDoorQU2
import Derived.Test.YtglppcmegocphaaGreatDoorQU3
import Derived.Test.YtglppcmegocphaaGreatDoorQU4
import Derived.Test.YtglppcmegocphaaGreatDoorQU5
import Derived.Test.YtglppcmegocphaaGreatDoorQU6
import Derived.Test.YtglppcmegocphaaGreatDoorQU7
import Derived.Test.YtglppcmegocphaaGreatDoorQU8
import Derived.Test.YtglppcmegocphaaGreatDoorQU9
import Derived.Test.YtglppcmegocphaaGreatDoorQU10
import Derived.Test.YtglppcmegocphaaGreatDoorQU11
import Derived.Test.YtglppcmegocphaaGreatDoorQU12
import Derived.Test.YtglppcmegocphaaGreatDoorQU13
import Derived.Test.YtglppcmegocphaaGreatDoorQU14
import Derived.Test.YtglppcmegocphaaGreatDoorQU15
import Derived.Test.YtglppcmegocphaaGreatDoorQU16
import Derived.Test.YtglppcmegocphaaGreatDoorQU17
import Derived.Test.YtglppcmegocphaaGreatDoorQU18
import Derived.Test.YtglppcmegocphaaGreatDoorQU19
import Derived.Test.YtglppcmegocphaaGreatDoorQU20
import Derived.Test.YtglppcmegocphaaGreatDoorQU21
import Derived.Test.YtglppcmegocphaaGreatDoorQU22
import Derived.Test.YtglppcmegocphaaGreatDoorQU23
import Derived.Test.YtglppcmegocphaaGreatDoorQU24
import Derived.Test.YtglppcmegocphaaGreatDoorQU26
import Derived.Test.YtglppcmegocphaaGreatDoorQU32
import Derived.Test.YtglppcmegocphaaGreatDoorQU34
import Derived.Test.YtglppcmegocphaaGreatDoorQU35
import Derived.Test.YtglppcmegocphaaGreatDoorQU36
import Derived.Test.YtglppcmegocphaaGreatDoorQU37
import Derived.Test.YtglppcmegocphaaGreatDoorQU42
namespace Go.Proofs.YtglppcmegocphaaGreatDoor
open Go Go.RowKit
theorem rq_e : rq ⟨#[]⟩ = false := rq_false.2 (by
  rintro ⟨q, hq, _⟩
  exact ql_ne q hq.symm)
theorem lfe_2 (x : Int) : ferr [2, x] = 2 := by simp [ferr]
theorem lfe_17 (x : Int) : ferr [17, x] = 17 := by simp [ferr]
theorem cutp_err : perr [⟨⟨#[49]⟩, ⟨#[]⟩⟩, ⟨⟨#[48]⟩, ⟨#[48]⟩⟩] = 2 := by unfold perr; simp [T2.l, rq_e]
theorem lerr_vals (a : T3) : lerr a = 0 ∨ lerr a = 2 ∨ lerr a = 17 := by
  unfold lerr
  split
  · split
    · exact Or.inr (Or.inr rfl)
    · exact Or.inl rfl
  · exact Or.inr (Or.inl rfl)

set_option maxRecDepth 100000 in
set_option maxHeartbeats 8000000 in
theorem lineerr_L0 (a b : T3) (w : World) (g : Gd w) (h0 : 40 < a.x.size) : Calls Tryz.prog 8 #[.agg #[.string a.x, .string a.y, .string a.z], .agg #[.string b.x, .string b.y, .string b.z]] w (Ret w (.bool true)) := by
  have HG := Lib.hid g
  clear g
  have t0 : decide ((40 : Int) < (a.x.size : Int)) = true := decide_eq_true (by omega)
  clear h0
  go_enter Tryz.func8, Tryz.ntmps8
  go_wp2_with fail
  refine wp_loop_rounds 7 ?_
  rw [rounds_succ]
  go_wp2_with fail
  refine (known_c _ (HG.out.ext ((((Ext.refl w).alloc _).alloc _).alloc _))).mono ?_; rintro e w1 ⟨rfl, e1⟩
  have HX1 : Hid (Ext w w1) := Lib.hid (((((Ext.refl w).alloc _).alloc _).alloc _).trans e1)
  clear e1
  go_wp2
  go_ret
  exact ⟨rfl, HX1.out⟩

set_option maxRecDepth 100000 in
set_option maxHeartbeats 8000000 in
theorem lineerr_L1 (a b : T3) (w : World) (g : Gd w) (h0 : a.x.size ≤ 40) (h1 : 40 < a.y.size) : Calls Tryz.prog 8 #[.agg #[.string a.x, .string a.y, .string a.z], .agg #[.string b.x, .string b.y, .string b.z]] w (Ret w (.bool true)) := by
  have HG := Lib.hid g
  clear g
  have t0 : decide ((40 : Int) < (a.x.size : Int)) = false := decide_eq_false (by omega)
  have t1 : decide ((40 : Int) < (a.y.size : Int)) = true := decide_eq_true (by omega)
  clear h0 h1
  go_enter Tryz.func8, Tryz.ntmps8
  go_wp2_with fail
  refine wp_loop_rounds 7 ?_
  rw [rounds_succ]
  go_wp2_with fail
  rw [rounds_succ]
  go_wp2_with fail
  refine (known_c _ (HG.out.ext ((((Ext.refl w).alloc _).alloc _).alloc _))).mono ?_; rintro e w1 ⟨rfl, e1⟩
  have HX1 : Hid (Ext w w1) := Lib.hid (((((Ext.refl w).alloc _).alloc _).alloc _).trans e1)
  clear e1
  go_wp2
  go_ret
  exact ⟨rfl, HX1.out⟩

set_option maxRecDepth 100000 in
set_option maxHeartbeats 8000000 in
theorem lineerr_L2 (a b : T3) (w : World) (g : Gd w) (h0 : a.x.size ≤ 40) (h1 : a.y.size ≤ 40) (h2 : 40 < a.z.size) : Calls Tryz.prog 8 #[.agg #[.string a.x, .string a.y, .string a.z], .agg #[.string b.x, .string b.y, .string b.z]] w (Ret w (.bool true)) := by
  have HG := Lib.hid g
  clear g
  have t0 : decide ((40 : Int) < (a.x.size : Int)) = false := decide_eq_false (by omega)
  have t1 : decide ((40 : Int) < (a.y.size : Int)) = false := decide_eq_false (by omega)
  have t2 : decide ((40 : Int) < (a.z.size : Int)) = true := decide_eq_true (by omega)
  clear h0 h1 h2
  go_enter Tryz.func8, Tryz.ntmps8
  go_wp2_with fail
  refine wp_loop_rounds 7 ?_
  rw [rounds_succ]
  go_wp2_with fail
  rw [rounds_succ]
  go_wp2_with fail
  rw [rounds_succ]
  go_wp2_with fail
  refine (known_c _ (HG.out.ext ((((Ext.refl w).alloc _).alloc _).alloc _))).mono ?_; rintro e w1 ⟨rfl, e1⟩
  have HX1 : Hid (Ext w w1) := Lib.hid (((((Ext.refl w).alloc _).alloc _).alloc _).trans e1)
  clear e1
  go_wp2
  go_ret
  exact ⟨rfl, HX1.out⟩

set_option maxRecDepth 100000 in
set_option maxHeartbeats 8000000 in
theorem lineerr_L3 (a b : T3) (w : World) (g : Gd w) (h0 : a.x.size ≤ 40) (h1 : a.y.size ≤ 40) (h2 : a.z.size ≤ 40) (h3 : 40 < b.x.size) : Calls Tryz.prog 8 #[.agg #[.string a.x, .string a.y, .string a.z], .agg #[.string b.x, .string b.y, .string b.z]] w (Ret w (.bool true)) := by
  have HG := Lib.hid g
  clear g
  have t0 : decide ((40 : Int) < (a.x.size : Int)) = false := decide_eq_false (by omega)
  have t1 : decide ((40 : Int) < (a.y.size : Int)) = false := decide_eq_false (by omega)
  have t2 : decide ((40 : Int) < (a.z.size : Int)) = false := decide_eq_false (by omega)
  have t3 : decide ((40 : Int) < (b.x.size : Int)) = true := decide_eq_true (by omega)
  clear h0 h1 h2 h3
  go_enter Tryz.func8, Tryz.ntmps8
  go_wp2_with fail
  refine wp_loop_rounds 7 ?_
  rw [rounds_succ]
  go_wp2_with fail
  rw [rounds_succ]
  go_wp2_with fail
  rw [rounds_succ]
  go_wp2_with fail
  rw [rounds_succ]
  go_wp2_with fail
  refine (known_c _ (HG.out.ext ((((Ext.refl w).alloc _).alloc _).alloc _))).mono ?_; rintro e w1 ⟨rfl, e1⟩
  have HX1 : Hid (Ext w w1) := Lib.hid (((((Ext.refl w).alloc _).alloc _).alloc _).trans e1)
  clear e1
  go_wp2
  go_ret
  exact ⟨rfl, HX1.out⟩

set_option maxRecDepth 100000 in
set_option maxHeartbeats 8000000 in
theorem lineerr_L4 (a b : T3) (w : World) (g : Gd w) (h0 : a.x.size ≤ 40) (h1 : a.y.size ≤ 40) (h2 : a.z.size ≤ 40) (h3 : b.x.size ≤ 40) (h4 : 40 < b.y.size) : Calls Tryz.prog 8 #[.agg #[.string a.x, .string a.y, .string a.z], .agg #[.string b.x, .string b.y, .string b.z]] w (Ret w (.bool true)) := by
  have HG := Lib.hid g
  clear g
  have t0 : decide ((40 : Int) < (a.x.size : Int)) = false := decide_eq_false (by omega)
  have t1 : decide ((40 : Int) < (a.y.size : Int)) = false := decide_eq_false (by omega)
  have t2 : decide ((40 : Int) < (a.z.size : Int)) = false := decide_eq_false (by omega)
  have t3 : decide ((40 : Int) < (b.x.size : Int)) = false := decide_eq_false (by omega)
  have t4 : decide ((40 : Int) < (b.y.size : Int)) = true := decide_eq_true (by omega)
  clear h0 h1 h2 h3 h4
  go_enter Tryz.func8, Tryz.ntmps8
  go_wp2_with fail
  refine wp_loop_rounds 7 ?_
  rw [rounds_succ]
  go_wp2_with fail
  rw [rounds_succ]
  go_wp2_with fail
  rw [rounds_succ]
  go_wp2_with fail
  rw [rounds_succ]
  go_wp2_with fail
  rw [rounds_succ]
  go_wp2_with fail
  refine (known_c _ (HG.out.ext ((((Ext.refl w).alloc _).alloc _).alloc _))).mono ?_; rintro e w1 ⟨rfl, e1⟩
  have HX1 : Hid (Ext w w1) := Lib.hid (((((Ext.refl w).alloc _).alloc _).alloc _).trans e1)
  clear e1
  go_wp2
  go_ret
  exact ⟨rfl, HX1.out⟩

set_option maxRecDepth 100000 in
set_option maxHeartbeats 8000000 in
theorem lineerr_L5 (a b : T3) (w : World) (g : Gd w) (h0 : a.x.size ≤ 40) (h1 : a.y.size ≤ 40) (h2 : a.z.size ≤ 40) (h3 : b.x.size ≤ 40) (h4 : b.y.size ≤ 40) (h5 : 40 < b.z.size) : Calls Tryz.prog 8 #[.agg #[.string a.x, .string a.y, .string a.z], .agg #[.string b.x, .string b.y, .string b.z]] w (Ret w (.bool true)) := by
  have HG := Lib.hid g
  clear g
  have t0 : decide ((40 : Int) < (a.x.size : Int)) = false := decide_eq_false (by omega)
  have t1 : decide ((40 : Int) < (a.y.size : Int)) = false := decide_eq_false (by omega)
  have t2 : decide ((40 : Int) < (a.z.size : Int)) = false := decide_eq_false (by omega)
  have t3 : decide ((40 : Int) < (b.x.size : Int)) = false := decide_eq_false (by omega)
  have t4 : decide ((40 : Int) < (b.y.size : Int)) = false := decide_eq_false (by omega)
  have t5 : decide ((40 : Int) < (b.z.size : Int)) = true := decide_eq_true (by omega)
  clear h0 h1 h2 h3 h4 h5
  go_enter Tryz.func8, Tryz.ntmps8
  go_wp2_with fail
  refine wp_loop_rounds 7 ?_
  rw [rounds_succ]
  go_wp2_with fail
  rw [rounds_succ]
  go_wp2_with fail
  rw [rounds_succ]
  go_wp2_with fail
  rw [rounds_succ]
  go_wp2_with fail
  rw [rounds_succ]
  go_wp2_with fail
  rw [rounds_succ]
  go_wp2_with fail
  refine (known_c _ (HG.out.ext ((((Ext.refl w).alloc _).alloc _).alloc _))).mono ?_; rintro e w1 ⟨rfl, e1⟩
  have HX1 : Hid (Ext w w1) := Lib.hid (((((Ext.refl w).alloc _).alloc _).alloc _).trans e1)
  clear e1
  go_wp2
  go_ret
  exact ⟨rfl, HX1.out⟩

set_option maxRecDepth 100000 in
set_option maxHeartbeats 16000000 in
theorem lineerr_A2 (a b : T3) (w : World) (g : Gd w) (h0 : a.x.size ≤ 40) (h1 : a.y.size ≤ 40) (h2 : a.z.size ≤ 40) (h3 : b.x.size ≤ 40) (h4 : b.y.size ≤ 40) (h5 : b.z.size ≤ 40) (hea : lerr a = 2) : Calls Tryz.prog 8 #[.agg #[.string a.x, .string a.y, .string a.z], .agg #[.string b.x, .string b.y, .string b.z]] w (Ret w (.bool true)) := by
  have HEA := Lib.hid hea
  have HG := Lib.hid g
  clear hea g
  have t0 : decide ((40 : Int) < (a.x.size : Int)) = false := decide_eq_false (by omega)
  have t1 : decide ((40 : Int) < (a.y.size : Int)) = false := decide_eq_false (by omega)
  have t2 : decide ((40 : Int) < (a.z.size : Int)) = false := decide_eq_false (by omega)
  have t3 : decide ((40 : Int) < (b.x.size : Int)) = false := decide_eq_false (by omega)
  have t4 : decide ((40 : Int) < (b.y.size : Int)) = false := decide_eq_false (by omega)
  have t5 : decide ((40 : Int) < (b.z.size : Int)) = false := decide_eq_false (by omega)
  have HAS : Hid (TS a) := Lib.hid ⟨Nat.le_trans h0 (by decide), Nat.le_trans h1 (by decide), Nat.le_trans h2 (by decide)⟩
  have HBS : Hid (TS b) := Lib.hid ⟨Nat.le_trans h3 (by decide), Nat.le_trans h4 (by decide), Nat.le_trans h5 (by decide)⟩
  clear h0 h1 h2 h3 h4 h5
  go_enter Tryz.func8, Tryz.ntmps8
  go_wp2_with fail
  refine wp_loop_rounds 7 ?_
  rw [rounds_succ]
  go_wp2_with fail
  rw [rounds_succ]
  go_wp2_with fail
  rw [rounds_succ]
  go_wp2_with fail
  rw [rounds_succ]
  go_wp2_with fail
  rw [rounds_succ]
  go_wp2_with fail
  rw [rounds_succ]
  go_wp2_with fail
  rw [rounds_succ]
  go_wp2_with fail
  refine (known_c _ (HG.out.ext ((((Ext.refl w).alloc _).alloc _).alloc _))).mono ?_; rintro e w1 ⟨rfl, e1⟩
  have HX1 : Hid (Ext w w1) := Lib.hid (((((Ext.refl w).alloc _).alloc _).alloc _).trans e1)
  have HB0_1 : Hid (Blk w1 (w.heap.size) #[.string a.x, .string a.y, .string a.z] 73) := Lib.hid (Blk.ext (((Blk.new' (w := _) (cs := #[.string a.x, .string a.y, .string a.z]) (t := 73) (by first | rfl | (simp only [World.size_alloc]; done) | (simp only [World.size_alloc]; omega) | simp)).alloc _).alloc _) e1)
  have HB1_1 : Hid (Blk w1 (w.heap.size + 1) #[.string b.x, .string b.y, .string b.z] 73) := Lib.hid (Blk.ext ((Blk.new' (w := _) (cs := #[.string b.x, .string b.y, .string b.z]) (t := 73) (by first | rfl | (simp only [World.size_alloc]; done) | (simp only [World.size_alloc]; omega) | simp)).alloc _) e1)
  have HGEB0 : Hid (w.heap.size ≤ w.heap.size) := Lib.hid (by first | omega | (simp only []; omega) | (simp; omega))
  have HGEB1 : Hid (w.heap.size ≤ w.heap.size + 1) := Lib.hid (by first | omega | (simp only []; omega) | (simp; omega))
  clear e1
  go_wp2_with fail
  refine wp_name (fun W => Ext w W ∧ Blk W (w.heap.size) #[.string a.x, .string a.y, .string a.z] 73 ∧ Blk W (w.heap.size + 1) #[.string b.x, .string b.y, .string b.z] 73) ⟨HX1.out, HB0_1.out, HB1_1.out⟩ ?_
  rintro w2 ⟨e2, bB0_2, bB1_2⟩
  have HX2 := Lib.hid e2; have HB0_2 := Lib.hid bB0_2; have HB1_2 := Lib.hid bB1_2
  clear e2 bB0_2 bB1_2
  refine region_lin [.val (.agg #[.string a.x, .string a.y, .string a.z]), .val (.int .i64 2), .val (.agg #[.string b.x, .string b.y, .string b.z]), .val (.int .i64 (lerr b)), .mem (fun b_ => .slice (some ⟨b_, 0, none⟩) 2 2) #[.int .i64 2, .int .i64 (lerr b)] 32 Option.none, .val (.int .i64 2), .val (.int .i64 2)] (by kernel_rfl) (by kernel_rfl) (by kernel_rfl) ?_ (fun g2 w3 hx_ hm_ hne_ => ?_)
  · skip
    refine RnL.cons (fun g2 A_ W_ hs_ => ?_) ?_
    · have q2_ := (hs_.old 2 (by kernel_rfl) : A_.tmps[2]?.getD undef = .pointer (some ⟨w.heap.size, 0, none⟩))
      have cB0_0 := (HB0_2.out.drew.ext hs_.1).cell 0 rfl
      have cB0_1 := (HB0_2.out.drew.ext hs_.1).cell 1 rfl
      have cB0_2 := (HB0_2.out.drew.ext hs_.1).cell 2 rfl
      refine Rn.val fun K_ hK_ => ?_
      go_simp
      exact hK_.out _ (Ext.refl _)
    refine RnL.cons (fun g2 A_ W_ hs_ => ?_) ?_
    · have q39_ := hs_.val 0 rfl rfl rfl
      refine Rn.val fun K_ hK_ => ?_
      go_simp
      refine ((HEA.out ▸ ofl_c a _ (HG.out.ext (HX2.out.drew.trans hs_.1)) HAS.out)).mono ?_; rintro e W9_ ⟨rfl, e9_⟩; exact hK_.out _ e9_
    refine RnL.cons (fun g2 A_ W_ hs_ => ?_) ?_
    · have q3_ := (hs_.old 3 (by kernel_rfl) : A_.tmps[3]?.getD undef = .pointer (some ⟨w.heap.size + 1, 0, none⟩))
      have cB1_0 := (HB1_2.out.drew.ext hs_.1).cell 0 rfl
      have cB1_1 := (HB1_2.out.drew.ext hs_.1).cell 1 rfl
      have cB1_2 := (HB1_2.out.drew.ext hs_.1).cell 2 rfl
      refine Rn.val fun K_ hK_ => ?_
      go_simp
      exact hK_.out _ (Ext.refl _)
    refine RnL.cons (fun g2 A_ W_ hs_ => ?_) ?_
    · have q41_ := hs_.val 2 rfl rfl rfl
      refine Rn.val fun K_ hK_ => ?_
      go_simp
      refine (ofl_c b _ (HG.out.ext (HX2.out.drew.trans hs_.1)) HBS.out).mono ?_; rintro e W9_ ⟨rfl, e9_⟩; exact hK_.out _ e9_
    refine RnL.cons (fun g2 A_ W_ hs_ => ?_) ?_
    · have q40_ := hs_.val 1 rfl rfl rfl
      have q42_ := hs_.val 3 rfl rfl rfl
      refine Rn.mem fun K_ hK_ => ?_
      go_simp
      exact hK_.out
    refine RnL.cons (fun g2 A_ W_ hs_ => ?_) ?_
    · have q43_ := (hs_.mem 4 rfl rfl rfl).1
      refine Rn.val fun K_ hK_ => ?_
      go_simp
      refine ((lfe_2 (lerr b) ▸ first2_c 2 (lerr b) (g2 4) _ ((hs_.mem 4 rfl rfl rfl).2.2 rfl))).mono ?_; rintro e _ ⟨rfl, rfl⟩; exact hK_.out _ (Ext.refl _)
    refine RnL.cons (fun g2 A_ W_ hs_ => ?_) ?_
    · have q44_ := hs_.val 5 rfl rfl rfl
      refine Rn.val fun K_ hK_ => ?_
      go_simp
      exact hK_.out _ (Ext.refl _)
    exact RnL.nil
  simp only [fs, Kd.value, puts, Act.put, List.setIfInBounds_toArray, List.set_cons_zero, List.set_cons_succ, Nat.reduceAdd]
  have HX3 : Hid (Ext w w3) := Lib.hid (HX2.out.drew.trans hx_)
  have HB0_3 := Lib.hid (HB0_2.out.drew.ext hx_)
  have HB1_3 := Lib.hid (HB1_2.out.drew.ext hx_)
  have HB3_3 : Hid (Blk w3 (g2 4) #[.int .i64 2, .int .i64 (lerr b)] 32) := Lib.hid (hm_ 4 _ _ _ _ rfl).2; have HGEB3 : Hid (w.heap.size ≤ g2 4) := Lib.hid (Nat.le_trans HX2.out.size (hm_ 4 _ _ _ _ rfl).1)
  have HNEB0B3 : Hid (w.heap.size ≠ g2 4) := Lib.hid (Nat.ne_of_lt (Nat.lt_of_lt_of_le HB0_2.out.lt (hm_ 4 _ _ _ _ rfl).1))
  have HNEB1B3 : Hid (w.heap.size + 1 ≠ g2 4) := Lib.hid (Nat.ne_of_lt (Nat.lt_of_lt_of_le HB1_2.out.lt (hm_ 4 _ _ _ _ rfl).1))
  clear hx_ hm_ hne_
  generalize g2 4 = i3 at *
  clear g2
  have c0_0 := HB0_3.out.cell 0 rfl
  have c0_1 := HB0_3.out.cell 1 rfl
  have c0_2 := HB0_3.out.cell 2 rfl
  have c1_0 := HB1_3.out.cell 0 rfl
  have c1_1 := HB1_3.out.cell 1 rfl
  have c1_2 := HB1_3.out.cell 2 rfl
  go_wp2_with fail
  refine (vMeet_a2 a b _ (HG.out.ext HX3.out) HAS.out HBS.out HEA.out).mono ?_; rintro e w4 ⟨rfl, e4⟩
  have HX4 : Hid (Ext w w4) := Lib.hid (HX3.out.trans e4)
  have HB0_4 := Lib.hid (Blk.ext HB0_3.out e4)
  clear e4 c0_0 c0_1 c0_2 c1_0 c1_1 c1_2
  go_upto_region 12 with fail
  refine wp_name (fun W => Ext w W ∧ Blk W (w.heap.size) #[.string a.x, .string a.y, .string a.z] 73 ∧ Blk W (w4.heap.size) #[.string ⟨#[]⟩, .string ⟨#[]⟩] 62) ⟨(HX4.out.alloc _), (HB0_4.out.alloc _), (Blk.new' (w := _) (cs := #[.string ⟨#[]⟩, .string ⟨#[]⟩]) (t := 62) (by first | rfl | (simp only [World.size_alloc]; done) | (simp only [World.size_alloc]; omega) | simp))⟩ ?_
  rintro w5 ⟨e5, bB0_5, bB4_5⟩
  have HX5 := Lib.hid e5; have HB0_5 := Lib.hid bB0_5; have HB4_5 := Lib.hid bB4_5
  have HGEB4 : Hid (w.heap.size ≤ w4.heap.size) := Lib.hid (by have := HX4.out.size; first | omega | (simp only []; omega) | (simp; omega))
  clear e5 bB0_5 bB4_5
  have c4_0 := HB4_5.out.cell 0 rfl
  have c4_1 := HB4_5.out.cell 1 rfl
  have c0_0 := HB0_5.out.cell 0 rfl
  have c0_1 := HB0_5.out.cell 1 rfl
  have c0_2 := HB0_5.out.cell 2 rfl
  go_wp2_with fail
  refine ((HEA.out ▸ ofl_c a _ (HG.out.ext HX5.out) HAS.out)).mono ?_; rintro e w6 ⟨rfl, e6⟩
  have HX6 : Hid (Ext w w6) := Lib.hid (HX5.out.trans e6)
  have HB0_6 := Lib.hid (Blk.ext HB0_5.out e6)
  clear e6 c4_0 c4_1 c0_0 c0_1 c0_2
  go_wp2_with fail
  refine (((by decide : ferr [2, 2] = 2) ▸ first2_c 2 2 (w6.heap.size) _ (Blk.new' (w := _) (cs := #[.int .i64 2, .int .i64 2]) (t := 32) (by first | rfl | (simp only [World.size_alloc]; done) | (simp only [World.size_alloc]; omega) | simp)))).mono ?_; rintro e _ ⟨rfl, rfl⟩
  go_wp2_with fail
  refine wp_name (fun W => Ext w W ∧ Blk W (w.heap.size) #[.string a.x, .string a.y, .string a.z] 73) ⟨(HX6.out.alloc _), (HB0_6.out.alloc _)⟩ ?_
  rintro w7 ⟨e7, bB0_7⟩
  have HX7 := Lib.hid e7; have HB0_7 := Lib.hid bB0_7
  clear e7 bB0_7
  refine region_lin [.val (.agg #[.string a.x, .string a.y, .string a.z]), .val (.agg #[.string ⟨#[49]⟩, .string ⟨#[]⟩]), .val (.agg #[.string ⟨#[48]⟩, .string ⟨#[48]⟩]), .val (.tuple #[.string ⟨#[]⟩, .bool false, .int .i64 2]), .val (.tuple #[.string ⟨#[]⟩, .bool false, .int .i64 2]), .val (.string ⟨#[]⟩), .val (.bool false), .val (.int .i64 2), .val (.string ⟨#[]⟩), .val (.bool false), .val (.int .i64 2)] (by kernel_rfl) (by kernel_rfl) (by kernel_rfl) ?_ (fun g7 w8 hx_ hm_ hne_ => ?_)
  · skip
    refine RnL.cons (fun g7 A_ W_ hs_ => ?_) ?_
    · have q2_ := (hs_.old 2 (by kernel_rfl) : A_.tmps[2]?.getD undef = .pointer (some ⟨w.heap.size, 0, none⟩))
      have cB0_0 := (HB0_7.out.drew.ext hs_.1).cell 0 rfl
      have cB0_1 := (HB0_7.out.drew.ext hs_.1).cell 1 rfl
      have cB0_2 := (HB0_7.out.drew.ext hs_.1).cell 2 rfl
      refine Rn.val fun K_ hK_ => ?_
      go_simp
      exact hK_.out _ (Ext.refl _)
    refine RnL.cons (fun g7 A_ W_ hs_ => ?_) ?_
    · refine Rn.val fun K_ hK_ => ?_
      go_simp
      exact hK_.out _ (Ext.refl _)
    refine RnL.cons (fun g7 A_ W_ hs_ => ?_) ?_
    · refine Rn.val fun K_ hK_ => ?_
      go_simp
      refine (kat_0_0 _ (HG.out.ext (HX7.out.drew.trans hs_.1))).mono ?_; rintro e W9_ ⟨rfl, e9_⟩; exact hK_.out _ e9_
    refine RnL.cons (fun g7 A_ W_ hs_ => ?_) ?_
    · have q70_ := hs_.val 0 rfl rfl rfl
      have q71_ := hs_.val 1 rfl rfl rfl
      have q72_ := hs_.val 2 rfl rfl rfl
      refine Rn.val fun K_ hK_ => ?_
      go_simp
      refine (vCut_a2 a ⟨⟨#[49]⟩, ⟨#[]⟩⟩ ⟨⟨#[48]⟩, ⟨#[48]⟩⟩ _ (HG.out.ext (HX7.out.drew.trans hs_.1)) HAS.out HEA.out).mono ?_; rintro e W9_ ⟨rfl, e9_⟩; exact hK_.out _ e9_
    refine RnL.cons (fun g7 A_ W_ hs_ => ?_) ?_
    · have q73_ := hs_.val 3 rfl rfl rfl
      refine Rn.val fun K_ hK_ => ?_
      go_simp
      exact hK_.out _ (Ext.refl _)
    refine RnL.cons (fun g7 A_ W_ hs_ => ?_) ?_
    · have q69_ := hs_.val 4 rfl rfl rfl
      refine Rn.val fun K_ hK_ => ?_
      go_simp
      exact hK_.out _ (Ext.refl _)
    refine RnL.cons (fun g7 A_ W_ hs_ => ?_) ?_
    · have q69_ := hs_.val 4 rfl rfl rfl
      refine Rn.val fun K_ hK_ => ?_
      go_simp
      exact hK_.out _ (Ext.refl _)
    refine RnL.cons (fun g7 A_ W_ hs_ => ?_) ?_
    · have q69_ := hs_.val 4 rfl rfl rfl
      refine Rn.val fun K_ hK_ => ?_
      go_simp
      exact hK_.out _ (Ext.refl _)
    refine RnL.cons (fun g7 A_ W_ hs_ => ?_) ?_
    · have q74_ := hs_.val 5 rfl rfl rfl
      refine Rn.val fun K_ hK_ => ?_
      go_simp
      exact hK_.out _ (Ext.refl _)
    refine RnL.cons (fun g7 A_ W_ hs_ => ?_) ?_
    · have q75_ := hs_.val 6 rfl rfl rfl
      refine Rn.val fun K_ hK_ => ?_
      go_simp
      exact hK_.out _ (Ext.refl _)
    refine RnL.cons (fun g7 A_ W_ hs_ => ?_) ?_
    · have q76_ := hs_.val 7 rfl rfl rfl
      refine Rn.val fun K_ hK_ => ?_
      go_simp
      exact hK_.out _ (Ext.refl _)
    exact RnL.nil
  simp only [fs, Kd.value, puts, Act.put, List.setIfInBounds_toArray, List.set_cons_zero, List.set_cons_succ]
  have HX8 : Hid (Ext w w8) := Lib.hid (HX7.out.drew.trans hx_)
  clear hx_ hm_ hne_
  go_wp2
  go_ret
  exact ⟨rfl, HX8.out⟩

set_option maxRecDepth 100000 in
set_option maxHeartbeats 16000000 in
theorem lineerr_A17 (a b : T3) (w : World) (g : Gd w) (h0 : a.x.size ≤ 40) (h1 : a.y.size ≤ 40) (h2 : a.z.size ≤ 40) (h3 : b.x.size ≤ 40) (h4 : b.y.size ≤ 40) (h5 : b.z.size ≤ 40) (hea : lerr a = 17) : Calls Tryz.prog 8 #[.agg #[.string a.x, .string a.y, .string a.z], .agg #[.string b.x, .string b.y, .string b.z]] w (Ret w (.bool true)) := by
  have HEA := Lib.hid hea
  have HG := Lib.hid g
  clear hea g
  have t0 : decide ((40 : Int) < (a.x.size : Int)) = false := decide_eq_false (by omega)
  have t1 : decide ((40 : Int) < (a.y.size : Int)) = false := decide_eq_false (by omega)
  have t2 : decide ((40 : Int) < (a.z.size : Int)) = false := decide_eq_false (by omega)
  have t3 : decide ((40 : Int) < (b.x.size : Int)) = false := decide_eq_false (by omega)
  have t4 : decide ((40 : Int) < (b.y.size : Int)) = false := decide_eq_false (by omega)
  have t5 : decide ((40 : Int) < (b.z.size : Int)) = false := decide_eq_false (by omega)
  have HAS : Hid (TS a) := Lib.hid ⟨Nat.le_trans h0 (by decide), Nat.le_trans h1 (by decide), Nat.le_trans h2 (by decide)⟩
  have HBS : Hid (TS b) := Lib.hid ⟨Nat.le_trans h3 (by decide), Nat.le_trans h4 (by decide), Nat.le_trans h5 (by decide)⟩
  clear h0 h1 h2 h3 h4 h5
  go_enter Tryz.func8, Tryz.ntmps8
  go_wp2_with fail
  refine wp_loop_rounds 7 ?_
  rw [rounds_succ]
  go_wp2_with fail
  rw [rounds_succ]
  go_wp2_with fail
  rw [rounds_succ]
  go_wp2_with fail
  rw [rounds_succ]
  go_wp2_with fail
  rw [rounds_succ]
  go_wp2_with fail
  rw [rounds_succ]
  go_wp2_with fail
  rw [rounds_succ]
  go_wp2_with fail
  refine (known_c _ (HG.out.ext ((((Ext.refl w).alloc _).alloc _).alloc _))).mono ?_; rintro e w1 ⟨rfl, e1⟩
  have HX1 : Hid (Ext w w1) := Lib.hid (((((Ext.refl w).alloc _).alloc _).alloc _).trans e1)
  have HB0_1 : Hid (Blk w1 (w.heap.size) #[.string a.x, .string a.y, .string a.z] 73) := Lib.hid (Blk.ext (((Blk.new' (w := _) (cs := #[.string a.x, .string a.y, .string a.z]) (t := 73) (by first | rfl | (simp only [World.size_alloc]; done) | (simp only [World.size_alloc]; omega) | simp)).alloc _).alloc _) e1)
  have HB1_1 : Hid (Blk w1 (w.heap.size + 1) #[.string b.x, .string b.y, .string b.z] 73) := Lib.hid (Blk.ext ((Blk.new' (w := _) (cs := #[.string b.x, .string b.y, .string b.z]) (t := 73) (by first | rfl | (simp only [World.size_alloc]; done) | (simp only [World.size_alloc]; omega) | simp)).alloc _) e1)
  have HGEB0 : Hid (w.heap.size ≤ w.heap.size) := Lib.hid (by first | omega | (simp only []; omega) | (simp; omega))
  have HGEB1 : Hid (w.heap.size ≤ w.heap.size + 1) := Lib.hid (by first | omega | (simp only []; omega) | (simp; omega))
  clear e1
  go_wp2_with fail
  refine wp_name (fun W => Ext w W ∧ Blk W (w.heap.size) #[.string a.x, .string a.y, .string a.z] 73 ∧ Blk W (w.heap.size + 1) #[.string b.x, .string b.y, .string b.z] 73) ⟨HX1.out, HB0_1.out, HB1_1.out⟩ ?_
  rintro w2 ⟨e2, bB0_2, bB1_2⟩
  have HX2 := Lib.hid e2; have HB0_2 := Lib.hid bB0_2; have HB1_2 := Lib.hid bB1_2
  clear e2 bB0_2 bB1_2
  refine region_lin [.val (.agg #[.string a.x, .string a.y, .string a.z]), .val (.int .i64 17), .val (.agg #[.string b.x, .string b.y, .string b.z]), .val (.int .i64 (lerr b)), .mem (fun b_ => .slice (some ⟨b_, 0, none⟩) 2 2) #[.int .i64 17, .int .i64 (lerr b)] 32 Option.none, .val (.int .i64 17), .val (.int .i64 17)] (by kernel_rfl) (by kernel_rfl) (by kernel_rfl) ?_ (fun g2 w3 hx_ hm_ hne_ => ?_)
  · skip
    refine RnL.cons (fun g2 A_ W_ hs_ => ?_) ?_
    · have q2_ := (hs_.old 2 (by kernel_rfl) : A_.tmps[2]?.getD undef = .pointer (some ⟨w.heap.size, 0, none⟩))
      have cB0_0 := (HB0_2.out.drew.ext hs_.1).cell 0 rfl
      have cB0_1 := (HB0_2.out.drew.ext hs_.1).cell 1 rfl
      have cB0_2 := (HB0_2.out.drew.ext hs_.1).cell 2 rfl
      refine Rn.val fun K_ hK_ => ?_
      go_simp
      exact hK_.out _ (Ext.refl _)
    refine RnL.cons (fun g2 A_ W_ hs_ => ?_) ?_
    · have q39_ := hs_.val 0 rfl rfl rfl
      refine Rn.val fun K_ hK_ => ?_
      go_simp
      refine ((HEA.out ▸ ofl_c a _ (HG.out.ext (HX2.out.drew.trans hs_.1)) HAS.out)).mono ?_; rintro e W9_ ⟨rfl, e9_⟩; exact hK_.out _ e9_
    refine RnL.cons (fun g2 A_ W_ hs_ => ?_) ?_
    · have q3_ := (hs_.old 3 (by kernel_rfl) : A_.tmps[3]?.getD undef = .pointer (some ⟨w.heap.size + 1, 0, none⟩))
      have cB1_0 := (HB1_2.out.drew.ext hs_.1).cell 0 rfl
      have cB1_1 := (HB1_2.out.drew.ext hs_.1).cell 1 rfl
      have cB1_2 := (HB1_2.out.drew.ext hs_.1).cell 2 rfl
      refine Rn.val fun K_ hK_ => ?_
      go_simp
      exact hK_.out _ (Ext.refl _)
    refine RnL.cons (fun g2 A_ W_ hs_ => ?_) ?_
    · have q41_ := hs_.val 2 rfl rfl rfl
      refine Rn.val fun K_ hK_ => ?_
      go_simp
      refine (ofl_c b _ (HG.out.ext (HX2.out.drew.trans hs_.1)) HBS.out).mono ?_; rintro e W9_ ⟨rfl, e9_⟩; exact hK_.out _ e9_
    refine RnL.cons (fun g2 A_ W_ hs_ => ?_) ?_
    · have q40_ := hs_.val 1 rfl rfl rfl
      have q42_ := hs_.val 3 rfl rfl rfl
      refine Rn.mem fun K_ hK_ => ?_
      go_simp
      exact hK_.out
    refine RnL.cons (fun g2 A_ W_ hs_ => ?_) ?_
    · have q43_ := (hs_.mem 4 rfl rfl rfl).1
      refine Rn.val fun K_ hK_ => ?_
      go_simp
      refine ((lfe_17 (lerr b) ▸ first2_c 17 (lerr b) (g2 4) _ ((hs_.mem 4 rfl rfl rfl).2.2 rfl))).mono ?_; rintro e _ ⟨rfl, rfl⟩; exact hK_.out _ (Ext.refl _)
    refine RnL.cons (fun g2 A_ W_ hs_ => ?_) ?_
    · have q44_ := hs_.val 5 rfl rfl rfl
      refine Rn.val fun K_ hK_ => ?_
      go_simp
      exact hK_.out _ (Ext.refl _)
    exact RnL.nil
  simp only [fs, Kd.value, puts, Act.put, List.setIfInBounds_toArray, List.set_cons_zero, List.set_cons_succ, Nat.reduceAdd]
  have HX3 : Hid (Ext w w3) := Lib.hid (HX2.out.drew.trans hx_)
  have HB0_3 := Lib.hid (HB0_2.out.drew.ext hx_)
  have HB1_3 := Lib.hid (HB1_2.out.drew.ext hx_)
  have HB3_3 : Hid (Blk w3 (g2 4) #[.int .i64 17, .int .i64 (lerr b)] 32) := Lib.hid (hm_ 4 _ _ _ _ rfl).2; have HGEB3 : Hid (w.heap.size ≤ g2 4) := Lib.hid (Nat.le_trans HX2.out.size (hm_ 4 _ _ _ _ rfl).1)
  have HNEB0B3 : Hid (w.heap.size ≠ g2 4) := Lib.hid (Nat.ne_of_lt (Nat.lt_of_lt_of_le HB0_2.out.lt (hm_ 4 _ _ _ _ rfl).1))
  have HNEB1B3 : Hid (w.heap.size + 1 ≠ g2 4) := Lib.hid (Nat.ne_of_lt (Nat.lt_of_lt_of_le HB1_2.out.lt (hm_ 4 _ _ _ _ rfl).1))
  clear hx_ hm_ hne_
  generalize g2 4 = i3 at *
  clear g2
  have c0_0 := HB0_3.out.cell 0 rfl
  have c0_1 := HB0_3.out.cell 1 rfl
  have c0_2 := HB0_3.out.cell 2 rfl
  have c1_0 := HB1_3.out.cell 0 rfl
  have c1_1 := HB1_3.out.cell 1 rfl
  have c1_2 := HB1_3.out.cell 2 rfl
  go_wp2_with fail
  refine (vMeet_a17 a b _ (HG.out.ext HX3.out) HAS.out HBS.out HEA.out).mono ?_; rintro e w4 ⟨rfl, e4⟩
  have HX4 : Hid (Ext w w4) := Lib.hid (HX3.out.trans e4)
  have HB0_4 := Lib.hid (Blk.ext HB0_3.out e4)
  clear e4 c0_0 c0_1 c0_2 c1_0 c1_1 c1_2
  go_upto_region 12 with fail
  refine wp_name (fun W => Ext w W ∧ Blk W (w.heap.size) #[.string a.x, .string a.y, .string a.z] 73 ∧ Blk W (w4.heap.size) #[.string ⟨#[]⟩, .string ⟨#[]⟩] 62) ⟨(HX4.out.alloc _), (HB0_4.out.alloc _), (Blk.new' (w := _) (cs := #[.string ⟨#[]⟩, .string ⟨#[]⟩]) (t := 62) (by first | rfl | (simp only [World.size_alloc]; done) | (simp only [World.size_alloc]; omega) | simp))⟩ ?_
  rintro w5 ⟨e5, bB0_5, bB4_5⟩
  have HX5 := Lib.hid e5; have HB0_5 := Lib.hid bB0_5; have HB4_5 := Lib.hid bB4_5
  have HGEB4 : Hid (w.heap.size ≤ w4.heap.size) := Lib.hid (by have := HX4.out.size; first | omega | (simp only []; omega) | (simp; omega))
  clear e5 bB0_5 bB4_5
  have c4_0 := HB4_5.out.cell 0 rfl
  have c4_1 := HB4_5.out.cell 1 rfl
  have c0_0 := HB0_5.out.cell 0 rfl
  have c0_1 := HB0_5.out.cell 1 rfl
  have c0_2 := HB0_5.out.cell 2 rfl
  go_wp2_with fail
  refine ((HEA.out ▸ ofl_c a _ (HG.out.ext HX5.out) HAS.out)).mono ?_; rintro e w6 ⟨rfl, e6⟩
  have HX6 : Hid (Ext w w6) := Lib.hid (HX5.out.trans e6)
  have HB0_6 := Lib.hid (Blk.ext HB0_5.out e6)
  clear e6 c4_0 c4_1 c0_0 c0_1 c0_2
  go_wp2_with fail
  refine (((by decide : ferr [17, 2] = 17) ▸ first2_c 17 2 (w6.heap.size) _ (Blk.new' (w := _) (cs := #[.int .i64 17, .int .i64 2]) (t := 32) (by first | rfl | (simp only [World.size_alloc]; done) | (simp only [World.size_alloc]; omega) | simp)))).mono ?_; rintro e _ ⟨rfl, rfl⟩
  go_wp2_with fail
  refine wp_name (fun W => Ext w W ∧ Blk W (w.heap.size) #[.string a.x, .string a.y, .string a.z] 73) ⟨(HX6.out.alloc _), (HB0_6.out.alloc _)⟩ ?_
  rintro w7 ⟨e7, bB0_7⟩
  have HX7 := Lib.hid e7; have HB0_7 := Lib.hid bB0_7
  clear e7 bB0_7
  refine region_lin [.val (.agg #[.string a.x, .string a.y, .string a.z]), .val (.agg #[.string ⟨#[49]⟩, .string ⟨#[]⟩]), .val (.agg #[.string ⟨#[48]⟩, .string ⟨#[48]⟩]), .val (.tuple #[.string ⟨#[]⟩, .bool false, .int .i64 17]), .val (.tuple #[.string ⟨#[]⟩, .bool false, .int .i64 17]), .val (.string ⟨#[]⟩), .val (.bool false), .val (.int .i64 17), .val (.string ⟨#[]⟩), .val (.bool false), .val (.int .i64 17)] (by kernel_rfl) (by kernel_rfl) (by kernel_rfl) ?_ (fun g7 w8 hx_ hm_ hne_ => ?_)
  · skip
    refine RnL.cons (fun g7 A_ W_ hs_ => ?_) ?_
    · have q2_ := (hs_.old 2 (by kernel_rfl) : A_.tmps[2]?.getD undef = .pointer (some ⟨w.heap.size, 0, none⟩))
      have cB0_0 := (HB0_7.out.drew.ext hs_.1).cell 0 rfl
      have cB0_1 := (HB0_7.out.drew.ext hs_.1).cell 1 rfl
      have cB0_2 := (HB0_7.out.drew.ext hs_.1).cell 2 rfl
      refine Rn.val fun K_ hK_ => ?_
      go_simp
      exact hK_.out _ (Ext.refl _)
    refine RnL.cons (fun g7 A_ W_ hs_ => ?_) ?_
    · refine Rn.val fun K_ hK_ => ?_
      go_simp
      exact hK_.out _ (Ext.refl _)
    refine RnL.cons (fun g7 A_ W_ hs_ => ?_) ?_
    · refine Rn.val fun K_ hK_ => ?_
      go_simp
      refine (kat_0_0 _ (HG.out.ext (HX7.out.drew.trans hs_.1))).mono ?_; rintro e W9_ ⟨rfl, e9_⟩; exact hK_.out _ e9_
    refine RnL.cons (fun g7 A_ W_ hs_ => ?_) ?_
    · have q70_ := hs_.val 0 rfl rfl rfl
      have q71_ := hs_.val 1 rfl rfl rfl
      have q72_ := hs_.val 2 rfl rfl rfl
      refine Rn.val fun K_ hK_ => ?_
      go_simp
      refine (vCut_a17 a ⟨⟨#[49]⟩, ⟨#[]⟩⟩ ⟨⟨#[48]⟩, ⟨#[48]⟩⟩ _ (HG.out.ext (HX7.out.drew.trans hs_.1)) HAS.out HEA.out).mono ?_; rintro e W9_ ⟨rfl, e9_⟩; exact hK_.out _ e9_
    refine RnL.cons (fun g7 A_ W_ hs_ => ?_) ?_
    · have q73_ := hs_.val 3 rfl rfl rfl
      refine Rn.val fun K_ hK_ => ?_
      go_simp
      exact hK_.out _ (Ext.refl _)
    refine RnL.cons (fun g7 A_ W_ hs_ => ?_) ?_
    · have q69_ := hs_.val 4 rfl rfl rfl
      refine Rn.val fun K_ hK_ => ?_
      go_simp
      exact hK_.out _ (Ext.refl _)
    refine RnL.cons (fun g7 A_ W_ hs_ => ?_) ?_
    · have q69_ := hs_.val 4 rfl rfl rfl
      refine Rn.val fun K_ hK_ => ?_
      go_simp
      exact hK_.out _ (Ext.refl _)
    refine RnL.cons (fun g7 A_ W_ hs_ => ?_) ?_
    · have q69_ := hs_.val 4 rfl rfl rfl
      refine Rn.val fun K_ hK_ => ?_
      go_simp
      exact hK_.out _ (Ext.refl _)
    refine RnL.cons (fun g7 A_ W_ hs_ => ?_) ?_
    · have q74_ := hs_.val 5 rfl rfl rfl
      refine Rn.val fun K_ hK_ => ?_
      go_simp
      exact hK_.out _ (Ext.refl _)
    refine RnL.cons (fun g7 A_ W_ hs_ => ?_) ?_
    · have q75_ := hs_.val 6 rfl rfl rfl
      refine Rn.val fun K_ hK_ => ?_
      go_simp
      exact hK_.out _ (Ext.refl _)
    refine RnL.cons (fun g7 A_ W_ hs_ => ?_) ?_
    · have q76_ := hs_.val 7 rfl rfl rfl
      refine Rn.val fun K_ hK_ => ?_
      go_simp
      exact hK_.out _ (Ext.refl _)
    exact RnL.nil
  simp only [fs, Kd.value, puts, Act.put, List.setIfInBounds_toArray, List.set_cons_zero, List.set_cons_succ]
  have HX8 : Hid (Ext w w8) := Lib.hid (HX7.out.drew.trans hx_)
  clear hx_ hm_ hne_
  go_wp2
  go_ret
  exact ⟨rfl, HX8.out⟩

set_option maxRecDepth 100000 in
set_option maxHeartbeats 16000000 in
theorem lineerr_B2 (a b : T3) (w : World) (g : Gd w) (h0 : a.x.size ≤ 40) (h1 : a.y.size ≤ 40) (h2 : a.z.size ≤ 40) (h3 : b.x.size ≤ 40) (h4 : b.y.size ≤ 40) (h5 : b.z.size ≤ 40) (hea : lerr a = 0) (heb : lerr b = 2) : Calls Tryz.prog 8 #[.agg #[.string a.x, .string a.y, .string a.z], .agg #[.string b.x, .string b.y, .string b.z]] w (Ret w (.bool true)) := by
  have HEA := Lib.hid hea
  have HEB := Lib.hid heb
  have HG := Lib.hid g
  clear hea heb g
  have t0 : decide ((40 : Int) < (a.x.size : Int)) = false := decide_eq_false (by omega)
  have t1 : decide ((40 : Int) < (a.y.size : Int)) = false := decide_eq_false (by omega)
  have t2 : decide ((40 : Int) < (a.z.size : Int)) = false := decide_eq_false (by omega)
  have t3 : decide ((40 : Int) < (b.x.size : Int)) = false := decide_eq_false (by omega)
  have t4 : decide ((40 : Int) < (b.y.size : Int)) = false := decide_eq_false (by omega)
  have t5 : decide ((40 : Int) < (b.z.size : Int)) = false := decide_eq_false (by omega)
  have HAS : Hid (TS a) := Lib.hid ⟨Nat.le_trans h0 (by decide), Nat.le_trans h1 (by decide), Nat.le_trans h2 (by decide)⟩
  have HBS : Hid (TS b) := Lib.hid ⟨Nat.le_trans h3 (by decide), Nat.le_trans h4 (by decide), Nat.le_trans h5 (by decide)⟩
  clear h0 h1 h2 h3 h4 h5
  go_enter Tryz.func8, Tryz.ntmps8
  go_wp2_with fail
  refine wp_loop_rounds 7 ?_
  rw [rounds_succ]
  go_wp2_with fail
  rw [rounds_succ]
  go_wp2_with fail
  rw [rounds_succ]
  go_wp2_with fail
  rw [rounds_succ]
  go_wp2_with fail
  rw [rounds_succ]
  go_wp2_with fail
  rw [rounds_succ]
  go_wp2_with fail
  rw [rounds_succ]
  go_wp2_with fail
  refine (known_c _ (HG.out.ext ((((Ext.refl w).alloc _).alloc _).alloc _))).mono ?_; rintro e w1 ⟨rfl, e1⟩
  have HX1 : Hid (Ext w w1) := Lib.hid (((((Ext.refl w).alloc _).alloc _).alloc _).trans e1)
  have HB0_1 : Hid (Blk w1 (w.heap.size) #[.string a.x, .string a.y, .string a.z] 73) := Lib.hid (Blk.ext (((Blk.new' (w := _) (cs := #[.string a.x, .string a.y, .string a.z]) (t := 73) (by first | rfl | (simp only [World.size_alloc]; done) | (simp only [World.size_alloc]; omega) | simp)).alloc _).alloc _) e1)
  have HB1_1 : Hid (Blk w1 (w.heap.size + 1) #[.string b.x, .string b.y, .string b.z] 73) := Lib.hid (Blk.ext ((Blk.new' (w := _) (cs := #[.string b.x, .string b.y, .string b.z]) (t := 73) (by first | rfl | (simp only [World.size_alloc]; done) | (simp only [World.size_alloc]; omega) | simp)).alloc _) e1)
  have HGEB0 : Hid (w.heap.size ≤ w.heap.size) := Lib.hid (by first | omega | (simp only []; omega) | (simp; omega))
  have HGEB1 : Hid (w.heap.size ≤ w.heap.size + 1) := Lib.hid (by first | omega | (simp only []; omega) | (simp; omega))
  clear e1
  go_wp2_with fail
  refine wp_name (fun W => Ext w W ∧ Blk W (w.heap.size) #[.string a.x, .string a.y, .string a.z] 73 ∧ Blk W (w.heap.size + 1) #[.string b.x, .string b.y, .string b.z] 73) ⟨HX1.out, HB0_1.out, HB1_1.out⟩ ?_
  rintro w2 ⟨e2, bB0_2, bB1_2⟩
  have HX2 := Lib.hid e2; have HB0_2 := Lib.hid bB0_2; have HB1_2 := Lib.hid bB1_2
  clear e2 bB0_2 bB1_2
  refine region_lin [.val (.agg #[.string a.x, .string a.y, .string a.z]), .val (.int .i64 0), .val (.agg #[.string b.x, .string b.y, .string b.z]), .val (.int .i64 2), .mem (fun b_ => .slice (some ⟨b_, 0, none⟩) 2 2) #[.int .i64 0, .int .i64 2] 32 Option.none, .val (.int .i64 2), .val (.int .i64 2)] (by kernel_rfl) (by kernel_rfl) (by kernel_rfl) ?_ (fun g2 w3 hx_ hm_ hne_ => ?_)
  · skip
    refine RnL.cons (fun g2 A_ W_ hs_ => ?_) ?_
    · have q2_ := (hs_.old 2 (by kernel_rfl) : A_.tmps[2]?.getD undef = .pointer (some ⟨w.heap.size, 0, none⟩))
      have cB0_0 := (HB0_2.out.drew.ext hs_.1).cell 0 rfl
      have cB0_1 := (HB0_2.out.drew.ext hs_.1).cell 1 rfl
      have cB0_2 := (HB0_2.out.drew.ext hs_.1).cell 2 rfl
      refine Rn.val fun K_ hK_ => ?_
      go_simp
      exact hK_.out _ (Ext.refl _)
    refine RnL.cons (fun g2 A_ W_ hs_ => ?_) ?_
    · have q39_ := hs_.val 0 rfl rfl rfl
      refine Rn.val fun K_ hK_ => ?_
      go_simp
      refine ((HEA.out ▸ ofl_c a _ (HG.out.ext (HX2.out.drew.trans hs_.1)) HAS.out)).mono ?_; rintro e W9_ ⟨rfl, e9_⟩; exact hK_.out _ e9_
    refine RnL.cons (fun g2 A_ W_ hs_ => ?_) ?_
    · have q3_ := (hs_.old 3 (by kernel_rfl) : A_.tmps[3]?.getD undef = .pointer (some ⟨w.heap.size + 1, 0, none⟩))
      have cB1_0 := (HB1_2.out.drew.ext hs_.1).cell 0 rfl
      have cB1_1 := (HB1_2.out.drew.ext hs_.1).cell 1 rfl
      have cB1_2 := (HB1_2.out.drew.ext hs_.1).cell 2 rfl
      refine Rn.val fun K_ hK_ => ?_
      go_simp
      exact hK_.out _ (Ext.refl _)
    refine RnL.cons (fun g2 A_ W_ hs_ => ?_) ?_
    · have q41_ := hs_.val 2 rfl rfl rfl
      refine Rn.val fun K_ hK_ => ?_
      go_simp
      refine ((HEB.out ▸ ofl_c b _ (HG.out.ext (HX2.out.drew.trans hs_.1)) HBS.out)).mono ?_; rintro e W9_ ⟨rfl, e9_⟩; exact hK_.out _ e9_
    refine RnL.cons (fun g2 A_ W_ hs_ => ?_) ?_
    · have q40_ := hs_.val 1 rfl rfl rfl
      have q42_ := hs_.val 3 rfl rfl rfl
      refine Rn.mem fun K_ hK_ => ?_
      go_simp
      exact hK_.out
    refine RnL.cons (fun g2 A_ W_ hs_ => ?_) ?_
    · have q43_ := (hs_.mem 4 rfl rfl rfl).1
      refine Rn.val fun K_ hK_ => ?_
      go_simp
      refine (((by decide : ferr [0, 2] = 2) ▸ first2_c 0 2 (g2 4) _ ((hs_.mem 4 rfl rfl rfl).2.2 rfl))).mono ?_; rintro e _ ⟨rfl, rfl⟩; exact hK_.out _ (Ext.refl _)
    refine RnL.cons (fun g2 A_ W_ hs_ => ?_) ?_
    · have q44_ := hs_.val 5 rfl rfl rfl
      refine Rn.val fun K_ hK_ => ?_
      go_simp
      exact hK_.out _ (Ext.refl _)
    exact RnL.nil
  simp only [fs, Kd.value, puts, Act.put, List.setIfInBounds_toArray, List.set_cons_zero, List.set_cons_succ, Nat.reduceAdd]
  have HX3 : Hid (Ext w w3) := Lib.hid (HX2.out.drew.trans hx_)
  have HB0_3 := Lib.hid (HB0_2.out.drew.ext hx_)
  have HB1_3 := Lib.hid (HB1_2.out.drew.ext hx_)
  have HB3_3 : Hid (Blk w3 (g2 4) #[.int .i64 0, .int .i64 2] 32) := Lib.hid (hm_ 4 _ _ _ _ rfl).2; have HGEB3 : Hid (w.heap.size ≤ g2 4) := Lib.hid (Nat.le_trans HX2.out.size (hm_ 4 _ _ _ _ rfl).1)
  have HNEB0B3 : Hid (w.heap.size ≠ g2 4) := Lib.hid (Nat.ne_of_lt (Nat.lt_of_lt_of_le HB0_2.out.lt (hm_ 4 _ _ _ _ rfl).1))
  have HNEB1B3 : Hid (w.heap.size + 1 ≠ g2 4) := Lib.hid (Nat.ne_of_lt (Nat.lt_of_lt_of_le HB1_2.out.lt (hm_ 4 _ _ _ _ rfl).1))
  clear hx_ hm_ hne_
  generalize g2 4 = i3 at *
  clear g2
  have c0_0 := HB0_3.out.cell 0 rfl
  have c0_1 := HB0_3.out.cell 1 rfl
  have c0_2 := HB0_3.out.cell 2 rfl
  have c1_0 := HB1_3.out.cell 0 rfl
  have c1_1 := HB1_3.out.cell 1 rfl
  have c1_2 := HB1_3.out.cell 2 rfl
  go_wp2_with fail
  refine (vMeet_b2 a b _ (HG.out.ext HX3.out) HAS.out HBS.out HEA.out HEB.out).mono ?_; rintro e w4 ⟨rfl, e4⟩
  have HX4 : Hid (Ext w w4) := Lib.hid (HX3.out.trans e4)
  have HB0_4 := Lib.hid (Blk.ext HB0_3.out e4)
  clear e4 c0_0 c0_1 c0_2 c1_0 c1_1 c1_2
  go_upto_region 12 with fail
  refine wp_name (fun W => Ext w W ∧ Blk W (w.heap.size) #[.string a.x, .string a.y, .string a.z] 73 ∧ Blk W (w4.heap.size) #[.string ⟨#[]⟩, .string ⟨#[]⟩] 62) ⟨(HX4.out.alloc _), (HB0_4.out.alloc _), (Blk.new' (w := _) (cs := #[.string ⟨#[]⟩, .string ⟨#[]⟩]) (t := 62) (by first | rfl | (simp only [World.size_alloc]; done) | (simp only [World.size_alloc]; omega) | simp))⟩ ?_
  rintro w5 ⟨e5, bB0_5, bB4_5⟩
  have HX5 := Lib.hid e5; have HB0_5 := Lib.hid bB0_5; have HB4_5 := Lib.hid bB4_5
  have HGEB4 : Hid (w.heap.size ≤ w4.heap.size) := Lib.hid (by have := HX4.out.size; first | omega | (simp only []; omega) | (simp; omega))
  clear e5 bB0_5 bB4_5
  have c4_0 := HB4_5.out.cell 0 rfl
  have c4_1 := HB4_5.out.cell 1 rfl
  have c0_0 := HB0_5.out.cell 0 rfl
  have c0_1 := HB0_5.out.cell 1 rfl
  have c0_2 := HB0_5.out.cell 2 rfl
  go_wp2_with fail
  refine ((HEA.out ▸ ofl_c a _ (HG.out.ext HX5.out) HAS.out)).mono ?_; rintro e w6 ⟨rfl, e6⟩
  have HX6 : Hid (Ext w w6) := Lib.hid (HX5.out.trans e6)
  have HB0_6 := Lib.hid (Blk.ext HB0_5.out e6)
  clear e6 c4_0 c4_1 c0_0 c0_1 c0_2
  go_wp2_with fail
  refine (((by decide : ferr [0, 2] = 2) ▸ first2_c 0 2 (w6.heap.size) _ (Blk.new' (w := _) (cs := #[.int .i64 0, .int .i64 2]) (t := 32) (by first | rfl | (simp only [World.size_alloc]; done) | (simp only [World.size_alloc]; omega) | simp)))).mono ?_; rintro e _ ⟨rfl, rfl⟩
  go_wp2_with fail
  refine wp_name (fun W => Ext w W ∧ Blk W (w.heap.size) #[.string a.x, .string a.y, .string a.z] 73) ⟨(HX6.out.alloc _), (HB0_6.out.alloc _)⟩ ?_
  rintro w7 ⟨e7, bB0_7⟩
  have HX7 := Lib.hid e7; have HB0_7 := Lib.hid bB0_7
  clear e7 bB0_7
  refine region_lin [.val (.agg #[.string a.x, .string a.y, .string a.z]), .val (.agg #[.string ⟨#[49]⟩, .string ⟨#[]⟩]), .val (.agg #[.string ⟨#[48]⟩, .string ⟨#[48]⟩]), .val (.tuple #[.string ⟨#[]⟩, .bool false, .int .i64 2]), .val (.tuple #[.string ⟨#[]⟩, .bool false, .int .i64 2]), .val (.string ⟨#[]⟩), .val (.bool false), .val (.int .i64 2), .val (.string ⟨#[]⟩), .val (.bool false), .val (.int .i64 2)] (by kernel_rfl) (by kernel_rfl) (by kernel_rfl) ?_ (fun g7 w8 hx_ hm_ hne_ => ?_)
  · skip
    refine RnL.cons (fun g7 A_ W_ hs_ => ?_) ?_
    · have q2_ := (hs_.old 2 (by kernel_rfl) : A_.tmps[2]?.getD undef = .pointer (some ⟨w.heap.size, 0, none⟩))
      have cB0_0 := (HB0_7.out.drew.ext hs_.1).cell 0 rfl
      have cB0_1 := (HB0_7.out.drew.ext hs_.1).cell 1 rfl
      have cB0_2 := (HB0_7.out.drew.ext hs_.1).cell 2 rfl
      refine Rn.val fun K_ hK_ => ?_
      go_simp
      exact hK_.out _ (Ext.refl _)
    refine RnL.cons (fun g7 A_ W_ hs_ => ?_) ?_
    · refine Rn.val fun K_ hK_ => ?_
      go_simp
      exact hK_.out _ (Ext.refl _)
    refine RnL.cons (fun g7 A_ W_ hs_ => ?_) ?_
    · refine Rn.val fun K_ hK_ => ?_
      go_simp
      refine (kat_0_0 _ (HG.out.ext (HX7.out.drew.trans hs_.1))).mono ?_; rintro e W9_ ⟨rfl, e9_⟩; exact hK_.out _ e9_
    refine RnL.cons (fun g7 A_ W_ hs_ => ?_) ?_
    · have q70_ := hs_.val 0 rfl rfl rfl
      have q71_ := hs_.val 1 rfl rfl rfl
      have q72_ := hs_.val 2 rfl rfl rfl
      refine Rn.val fun K_ hK_ => ?_
      go_simp
      refine (vCut_p a ⟨⟨#[49]⟩, ⟨#[]⟩⟩ ⟨⟨#[48]⟩, ⟨#[48]⟩⟩ _ (HG.out.ext (HX7.out.drew.trans hs_.1)) HAS.out ⟨by decide, by decide⟩ ⟨by decide, by decide⟩ HEA.out cutp_err).mono ?_; rintro e W9_ ⟨rfl, e9_⟩; exact hK_.out _ e9_
    refine RnL.cons (fun g7 A_ W_ hs_ => ?_) ?_
    · have q73_ := hs_.val 3 rfl rfl rfl
      refine Rn.val fun K_ hK_ => ?_
      go_simp
      exact hK_.out _ (Ext.refl _)
    refine RnL.cons (fun g7 A_ W_ hs_ => ?_) ?_
    · have q69_ := hs_.val 4 rfl rfl rfl
      refine Rn.val fun K_ hK_ => ?_
      go_simp
      exact hK_.out _ (Ext.refl _)
    refine RnL.cons (fun g7 A_ W_ hs_ => ?_) ?_
    · have q69_ := hs_.val 4 rfl rfl rfl
      refine Rn.val fun K_ hK_ => ?_
      go_simp
      exact hK_.out _ (Ext.refl _)
    refine RnL.cons (fun g7 A_ W_ hs_ => ?_) ?_
    · have q69_ := hs_.val 4 rfl rfl rfl
      refine Rn.val fun K_ hK_ => ?_
      go_simp
      exact hK_.out _ (Ext.refl _)
    refine RnL.cons (fun g7 A_ W_ hs_ => ?_) ?_
    · have q74_ := hs_.val 5 rfl rfl rfl
      refine Rn.val fun K_ hK_ => ?_
      go_simp
      exact hK_.out _ (Ext.refl _)
    refine RnL.cons (fun g7 A_ W_ hs_ => ?_) ?_
    · have q75_ := hs_.val 6 rfl rfl rfl
      refine Rn.val fun K_ hK_ => ?_
      go_simp
      exact hK_.out _ (Ext.refl _)
    refine RnL.cons (fun g7 A_ W_ hs_ => ?_) ?_
    · have q76_ := hs_.val 7 rfl rfl rfl
      refine Rn.val fun K_ hK_ => ?_
      go_simp
      exact hK_.out _ (Ext.refl _)
    exact RnL.nil
  simp only [fs, Kd.value, puts, Act.put, List.setIfInBounds_toArray, List.set_cons_zero, List.set_cons_succ]
  have HX8 : Hid (Ext w w8) := Lib.hid (HX7.out.drew.trans hx_)
  clear hx_ hm_ hne_
  go_wp2
  go_ret
  exact ⟨rfl, HX8.out⟩

set_option maxRecDepth 100000 in
set_option maxHeartbeats 16000000 in
theorem lineerr_B17 (a b : T3) (w : World) (g : Gd w) (h0 : a.x.size ≤ 40) (h1 : a.y.size ≤ 40) (h2 : a.z.size ≤ 40) (h3 : b.x.size ≤ 40) (h4 : b.y.size ≤ 40) (h5 : b.z.size ≤ 40) (hea : lerr a = 0) (heb : lerr b = 17) : Calls Tryz.prog 8 #[.agg #[.string a.x, .string a.y, .string a.z], .agg #[.string b.x, .string b.y, .string b.z]] w (Ret w (.bool true)) := by
  have HEA := Lib.hid hea
  have HEB := Lib.hid heb
  have HG := Lib.hid g
  clear hea heb g
  have t0 : decide ((40 : Int) < (a.x.size : Int)) = false := decide_eq_false (by omega)
  have t1 : decide ((40 : Int) < (a.y.size : Int)) = false := decide_eq_false (by omega)
  have t2 : decide ((40 : Int) < (a.z.size : Int)) = false := decide_eq_false (by omega)
  have t3 : decide ((40 : Int) < (b.x.size : Int)) = false := decide_eq_false (by omega)
  have t4 : decide ((40 : Int) < (b.y.size : Int)) = false := decide_eq_false (by omega)
  have t5 : decide ((40 : Int) < (b.z.size : Int)) = false := decide_eq_false (by omega)
  have HAS : Hid (TS a) := Lib.hid ⟨Nat.le_trans h0 (by decide), Nat.le_trans h1 (by decide), Nat.le_trans h2 (by decide)⟩
  have HBS : Hid (TS b) := Lib.hid ⟨Nat.le_trans h3 (by decide), Nat.le_trans h4 (by decide), Nat.le_trans h5 (by decide)⟩
  clear h0 h1 h2 h3 h4 h5
  go_enter Tryz.func8, Tryz.ntmps8
  go_wp2_with fail
  refine wp_loop_rounds 7 ?_
  rw [rounds_succ]
  go_wp2_with fail
  rw [rounds_succ]
  go_wp2_with fail
  rw [rounds_succ]
  go_wp2_with fail
  rw [rounds_succ]
  go_wp2_with fail
  rw [rounds_succ]
  go_wp2_with fail
  rw [rounds_succ]
  go_wp2_with fail
  rw [rounds_succ]
  go_wp2_with fail
  refine (known_c _ (HG.out.ext ((((Ext.refl w).alloc _).alloc _).alloc _))).mono ?_; rintro e w1 ⟨rfl, e1⟩
  have HX1 : Hid (Ext w w1) := Lib.hid (((((Ext.refl w).alloc _).alloc _).alloc _).trans e1)
  have HB0_1 : Hid (Blk w1 (w.heap.size) #[.string a.x, .string a.y, .string a.z] 73) := Lib.hid (Blk.ext (((Blk.new' (w := _) (cs := #[.string a.x, .string a.y, .string a.z]) (t := 73) (by first | rfl | (simp only [World.size_alloc]; done) | (simp only [World.size_alloc]; omega) | simp)).alloc _).alloc _) e1)
  have HB1_1 : Hid (Blk w1 (w.heap.size + 1) #[.string b.x, .string b.y, .string b.z] 73) := Lib.hid (Blk.ext ((Blk.new' (w := _) (cs := #[.string b.x, .string b.y, .string b.z]) (t := 73) (by first | rfl | (simp only [World.size_alloc]; done) | (simp only [World.size_alloc]; omega) | simp)).alloc _) e1)
  have HGEB0 : Hid (w.heap.size ≤ w.heap.size) := Lib.hid (by first | omega | (simp only []; omega) | (simp; omega))
  have HGEB1 : Hid (w.heap.size ≤ w.heap.size + 1) := Lib.hid (by first | omega | (simp only []; omega) | (simp; omega))
  clear e1
  go_wp2_with fail
  refine wp_name (fun W => Ext w W ∧ Blk W (w.heap.size) #[.string a.x, .string a.y, .string a.z] 73 ∧ Blk W (w.heap.size + 1) #[.string b.x, .string b.y, .string b.z] 73) ⟨HX1.out, HB0_1.out, HB1_1.out⟩ ?_
  rintro w2 ⟨e2, bB0_2, bB1_2⟩
  have HX2 := Lib.hid e2; have HB0_2 := Lib.hid bB0_2; have HB1_2 := Lib.hid bB1_2
  clear e2 bB0_2 bB1_2
  refine region_lin [.val (.agg #[.string a.x, .string a.y, .string a.z]), .val (.int .i64 0), .val (.agg #[.string b.x, .string b.y, .string b.z]), .val (.int .i64 17), .mem (fun b_ => .slice (some ⟨b_, 0, none⟩) 2 2) #[.int .i64 0, .int .i64 17] 32 Option.none, .val (.int .i64 17), .val (.int .i64 17)] (by kernel_rfl) (by kernel_rfl) (by kernel_rfl) ?_ (fun g2 w3 hx_ hm_ hne_ => ?_)
  · skip
    refine RnL.cons (fun g2 A_ W_ hs_ => ?_) ?_
    · have q2_ := (hs_.old 2 (by kernel_rfl) : A_.tmps[2]?.getD undef = .pointer (some ⟨w.heap.size, 0, none⟩))
      have cB0_0 := (HB0_2.out.drew.ext hs_.1).cell 0 rfl
      have cB0_1 := (HB0_2.out.drew.ext hs_.1).cell 1 rfl
      have cB0_2 := (HB0_2.out.drew.ext hs_.1).cell 2 rfl
      refine Rn.val fun K_ hK_ => ?_
      go_simp
      exact hK_.out _ (Ext.refl _)
    refine RnL.cons (fun g2 A_ W_ hs_ => ?_) ?_
    · have q39_ := hs_.val 0 rfl rfl rfl
      refine Rn.val fun K_ hK_ => ?_
      go_simp
      refine ((HEA.out ▸ ofl_c a _ (HG.out.ext (HX2.out.drew.trans hs_.1)) HAS.out)).mono ?_; rintro e W9_ ⟨rfl, e9_⟩; exact hK_.out _ e9_
    refine RnL.cons (fun g2 A_ W_ hs_ => ?_) ?_
    · have q3_ := (hs_.old 3 (by kernel_rfl) : A_.tmps[3]?.getD undef = .pointer (some ⟨w.heap.size + 1, 0, none⟩))
      have cB1_0 := (HB1_2.out.drew.ext hs_.1).cell 0 rfl
      have cB1_1 := (HB1_2.out.drew.ext hs_.1).cell 1 rfl
      have cB1_2 := (HB1_2.out.drew.ext hs_.1).cell 2 rfl
      refine Rn.val fun K_ hK_ => ?_
      go_simp
      exact hK_.out _ (Ext.refl _)
    refine RnL.cons (fun g2 A_ W_ hs_ => ?_) ?_
    · have q41_ := hs_.val 2 rfl rfl rfl
      refine Rn.val fun K_ hK_ => ?_
      go_simp
      refine ((HEB.out ▸ ofl_c b _ (HG.out.ext (HX2.out.drew.trans hs_.1)) HBS.out)).mono ?_; rintro e W9_ ⟨rfl, e9_⟩; exact hK_.out _ e9_
    refine RnL.cons (fun g2 A_ W_ hs_ => ?_) ?_
    · have q40_ := hs_.val 1 rfl rfl rfl
      have q42_ := hs_.val 3 rfl rfl rfl
      refine Rn.mem fun K_ hK_ => ?_
      go_simp
      exact hK_.out
    refine RnL.cons (fun g2 A_ W_ hs_ => ?_) ?_
    · have q43_ := (hs_.mem 4 rfl rfl rfl).1
      refine Rn.val fun K_ hK_ => ?_
      go_simp
      refine (((by decide : ferr [0, 17] = 17) ▸ first2_c 0 17 (g2 4) _ ((hs_.mem 4 rfl rfl rfl).2.2 rfl))).mono ?_; rintro e _ ⟨rfl, rfl⟩; exact hK_.out _ (Ext.refl _)
    refine RnL.cons (fun g2 A_ W_ hs_ => ?_) ?_
    · have q44_ := hs_.val 5 rfl rfl rfl
      refine Rn.val fun K_ hK_ => ?_
      go_simp
      exact hK_.out _ (Ext.refl _)
    exact RnL.nil
  simp only [fs, Kd.value, puts, Act.put, List.setIfInBounds_toArray, List.set_cons_zero, List.set_cons_succ, Nat.reduceAdd]
  have HX3 : Hid (Ext w w3) := Lib.hid (HX2.out.drew.trans hx_)
  have HB0_3 := Lib.hid (HB0_2.out.drew.ext hx_)
  have HB1_3 := Lib.hid (HB1_2.out.drew.ext hx_)
  have HB3_3 : Hid (Blk w3 (g2 4) #[.int .i64 0, .int .i64 17] 32) := Lib.hid (hm_ 4 _ _ _ _ rfl).2; have HGEB3 : Hid (w.heap.size ≤ g2 4) := Lib.hid (Nat.le_trans HX2.out.size (hm_ 4 _ _ _ _ rfl).1)
  have HNEB0B3 : Hid (w.heap.size ≠ g2 4) := Lib.hid (Nat.ne_of_lt (Nat.lt_of_lt_of_le HB0_2.out.lt (hm_ 4 _ _ _ _ rfl).1))
  have HNEB1B3 : Hid (w.heap.size + 1 ≠ g2 4) := Lib.hid (Nat.ne_of_lt (Nat.lt_of_lt_of_le HB1_2.out.lt (hm_ 4 _ _ _ _ rfl).1))
  clear hx_ hm_ hne_
  generalize g2 4 = i3 at *
  clear g2
  have c0_0 := HB0_3.out.cell 0 rfl
  have c0_1 := HB0_3.out.cell 1 rfl
  have c0_2 := HB0_3.out.cell 2 rfl
  have c1_0 := HB1_3.out.cell 0 rfl
  have c1_1 := HB1_3.out.cell 1 rfl
  have c1_2 := HB1_3.out.cell 2 rfl
  go_wp2_with fail
  refine (vMeet_b17 a b _ (HG.out.ext HX3.out) HAS.out HBS.out HEA.out HEB.out).mono ?_; rintro e w4 ⟨rfl, e4⟩
  have HX4 : Hid (Ext w w4) := Lib.hid (HX3.out.trans e4)
  have HB0_4 := Lib.hid (Blk.ext HB0_3.out e4)
  clear e4 c0_0 c0_1 c0_2 c1_0 c1_1 c1_2
  go_upto_region 12 with fail
  refine wp_name (fun W => Ext w W ∧ Blk W (w.heap.size) #[.string a.x, .string a.y, .string a.z] 73 ∧ Blk W (w4.heap.size) #[.string ⟨#[]⟩, .string ⟨#[]⟩] 62) ⟨(HX4.out.alloc _), (HB0_4.out.alloc _), (Blk.new' (w := _) (cs := #[.string ⟨#[]⟩, .string ⟨#[]⟩]) (t := 62) (by first | rfl | (simp only [World.size_alloc]; done) | (simp only [World.size_alloc]; omega) | simp))⟩ ?_
  rintro w5 ⟨e5, bB0_5, bB4_5⟩
  have HX5 := Lib.hid e5; have HB0_5 := Lib.hid bB0_5; have HB4_5 := Lib.hid bB4_5
  have HGEB4 : Hid (w.heap.size ≤ w4.heap.size) := Lib.hid (by have := HX4.out.size; first | omega | (simp only []; omega) | (simp; omega))
  clear e5 bB0_5 bB4_5
  have c4_0 := HB4_5.out.cell 0 rfl
  have c4_1 := HB4_5.out.cell 1 rfl
  have c0_0 := HB0_5.out.cell 0 rfl
  have c0_1 := HB0_5.out.cell 1 rfl
  have c0_2 := HB0_5.out.cell 2 rfl
  go_wp2_with fail
  refine ((HEA.out ▸ ofl_c a _ (HG.out.ext HX5.out) HAS.out)).mono ?_; rintro e w6 ⟨rfl, e6⟩
  have HX6 : Hid (Ext w w6) := Lib.hid (HX5.out.trans e6)
  have HB0_6 := Lib.hid (Blk.ext HB0_5.out e6)
  clear e6 c4_0 c4_1 c0_0 c0_1 c0_2
  go_wp2_with fail
  refine (((by decide : ferr [0, 2] = 2) ▸ first2_c 0 2 (w6.heap.size) _ (Blk.new' (w := _) (cs := #[.int .i64 0, .int .i64 2]) (t := 32) (by first | rfl | (simp only [World.size_alloc]; done) | (simp only [World.size_alloc]; omega) | simp)))).mono ?_; rintro e _ ⟨rfl, rfl⟩
  go_wp2_with fail
  refine wp_name (fun W => Ext w W ∧ Blk W (w.heap.size) #[.string a.x, .string a.y, .string a.z] 73) ⟨(HX6.out.alloc _), (HB0_6.out.alloc _)⟩ ?_
  rintro w7 ⟨e7, bB0_7⟩
  have HX7 := Lib.hid e7; have HB0_7 := Lib.hid bB0_7
  clear e7 bB0_7
  refine region_lin [.val (.agg #[.string a.x, .string a.y, .string a.z]), .val (.agg #[.string ⟨#[49]⟩, .string ⟨#[]⟩]), .val (.agg #[.string ⟨#[48]⟩, .string ⟨#[48]⟩]), .val (.tuple #[.string ⟨#[]⟩, .bool false, .int .i64 2]), .val (.tuple #[.string ⟨#[]⟩, .bool false, .int .i64 2]), .val (.string ⟨#[]⟩), .val (.bool false), .val (.int .i64 2), .val (.string ⟨#[]⟩), .val (.bool false), .val (.int .i64 2)] (by kernel_rfl) (by kernel_rfl) (by kernel_rfl) ?_ (fun g7 w8 hx_ hm_ hne_ => ?_)
  · skip
    refine RnL.cons (fun g7 A_ W_ hs_ => ?_) ?_
    · have q2_ := (hs_.old 2 (by kernel_rfl) : A_.tmps[2]?.getD undef = .pointer (some ⟨w.heap.size, 0, none⟩))
      have cB0_0 := (HB0_7.out.drew.ext hs_.1).cell 0 rfl
      have cB0_1 := (HB0_7.out.drew.ext hs_.1).cell 1 rfl
      have cB0_2 := (HB0_7.out.drew.ext hs_.1).cell 2 rfl
      refine Rn.val fun K_ hK_ => ?_
      go_simp
      exact hK_.out _ (Ext.refl _)
    refine RnL.cons (fun g7 A_ W_ hs_ => ?_) ?_
    · refine Rn.val fun K_ hK_ => ?_
      go_simp
      exact hK_.out _ (Ext.refl _)
    refine RnL.cons (fun g7 A_ W_ hs_ => ?_) ?_
    · refine Rn.val fun K_ hK_ => ?_
      go_simp
      refine (kat_0_0 _ (HG.out.ext (HX7.out.drew.trans hs_.1))).mono ?_; rintro e W9_ ⟨rfl, e9_⟩; exact hK_.out _ e9_
    refine RnL.cons (fun g7 A_ W_ hs_ => ?_) ?_
    · have q70_ := hs_.val 0 rfl rfl rfl
      have q71_ := hs_.val 1 rfl rfl rfl
      have q72_ := hs_.val 2 rfl rfl rfl
      refine Rn.val fun K_ hK_ => ?_
      go_simp
      refine (vCut_p a ⟨⟨#[49]⟩, ⟨#[]⟩⟩ ⟨⟨#[48]⟩, ⟨#[48]⟩⟩ _ (HG.out.ext (HX7.out.drew.trans hs_.1)) HAS.out ⟨by decide, by decide⟩ ⟨by decide, by decide⟩ HEA.out cutp_err).mono ?_; rintro e W9_ ⟨rfl, e9_⟩; exact hK_.out _ e9_
    refine RnL.cons (fun g7 A_ W_ hs_ => ?_) ?_
    · have q73_ := hs_.val 3 rfl rfl rfl
      refine Rn.val fun K_ hK_ => ?_
      go_simp
      exact hK_.out _ (Ext.refl _)
    refine RnL.cons (fun g7 A_ W_ hs_ => ?_) ?_
    · have q69_ := hs_.val 4 rfl rfl rfl
      refine Rn.val fun K_ hK_ => ?_
      go_simp
      exact hK_.out _ (Ext.refl _)
    refine RnL.cons (fun g7 A_ W_ hs_ => ?_) ?_
    · have q69_ := hs_.val 4 rfl rfl rfl
      refine Rn.val fun K_ hK_ => ?_
      go_simp
      exact hK_.out _ (Ext.refl _)
    refine RnL.cons (fun g7 A_ W_ hs_ => ?_) ?_
    · have q69_ := hs_.val 4 rfl rfl rfl
      refine Rn.val fun K_ hK_ => ?_
      go_simp
      exact hK_.out _ (Ext.refl _)
    refine RnL.cons (fun g7 A_ W_ hs_ => ?_) ?_
    · have q74_ := hs_.val 5 rfl rfl rfl
      refine Rn.val fun K_ hK_ => ?_
      go_simp
      exact hK_.out _ (Ext.refl _)
    refine RnL.cons (fun g7 A_ W_ hs_ => ?_) ?_
    · have q75_ := hs_.val 6 rfl rfl rfl
      refine Rn.val fun K_ hK_ => ?_
      go_simp
      exact hK_.out _ (Ext.refl _)
    refine RnL.cons (fun g7 A_ W_ hs_ => ?_) ?_
    · have q76_ := hs_.val 7 rfl rfl rfl
      refine Rn.val fun K_ hK_ => ?_
      go_simp
      exact hK_.out _ (Ext.refl _)
    exact RnL.nil
  simp only [fs, Kd.value, puts, Act.put, List.setIfInBounds_toArray, List.set_cons_zero, List.set_cons_succ]
  have HX8 : Hid (Ext w w8) := Lib.hid (HX7.out.drew.trans hx_)
  clear hx_ hm_ hne_
  go_wp2
  go_ret
  exact ⟨rfl, HX8.out⟩

set_option maxRecDepth 100000 in
set_option maxHeartbeats 16000000 in
theorem lineerr_C (a b : T3) (w : World) (g : Gd w) (h0 : a.x.size ≤ 40) (h1 : a.y.size ≤ 40) (h2 : a.z.size ≤ 40) (h3 : b.x.size ≤ 40) (h4 : b.y.size ≤ 40) (h5 : b.z.size ≤ 40) (hea : lerr a = 0) (heb : lerr b = 0) : Calls Tryz.prog 8 #[.agg #[.string a.x, .string a.y, .string a.z], .agg #[.string b.x, .string b.y, .string b.z]] w (Ret w (.bool true)) := by
  have HEA := Lib.hid hea
  have HEB := Lib.hid heb
  have HG := Lib.hid g
  clear hea heb g
  have t0 : decide ((40 : Int) < (a.x.size : Int)) = false := decide_eq_false (by omega)
  have t1 : decide ((40 : Int) < (a.y.size : Int)) = false := decide_eq_false (by omega)
  have t2 : decide ((40 : Int) < (a.z.size : Int)) = false := decide_eq_false (by omega)
  have t3 : decide ((40 : Int) < (b.x.size : Int)) = false := decide_eq_false (by omega)
  have t4 : decide ((40 : Int) < (b.y.size : Int)) = false := decide_eq_false (by omega)
  have t5 : decide ((40 : Int) < (b.z.size : Int)) = false := decide_eq_false (by omega)
  have HAS : Hid (TS a) := Lib.hid ⟨Nat.le_trans h0 (by decide), Nat.le_trans h1 (by decide), Nat.le_trans h2 (by decide)⟩
  have HBS : Hid (TS b) := Lib.hid ⟨Nat.le_trans h3 (by decide), Nat.le_trans h4 (by decide), Nat.le_trans h5 (by decide)⟩
  clear h0 h1 h2 h3 h4 h5
  go_enter Tryz.func8, Tryz.ntmps8
  go_wp2_with fail
  refine wp_loop_rounds 7 ?_
  rw [rounds_succ]
  go_wp2_with fail
  rw [rounds_succ]
  go_wp2_with fail
  rw [rounds_succ]
  go_wp2_with fail
  rw [rounds_succ]
  go_wp2_with fail
  rw [rounds_succ]
  go_wp2_with fail
  rw [rounds_succ]
  go_wp2_with fail
  rw [rounds_succ]
  go_wp2_with fail
  refine (known_c _ (HG.out.ext ((((Ext.refl w).alloc _).alloc _).alloc _))).mono ?_; rintro e w1 ⟨rfl, e1⟩
  have HX1 : Hid (Ext w w1) := Lib.hid (((((Ext.refl w).alloc _).alloc _).alloc _).trans e1)
  have HB0_1 : Hid (Blk w1 (w.heap.size) #[.string a.x, .string a.y, .string a.z] 73) := Lib.hid (Blk.ext (((Blk.new' (w := _) (cs := #[.string a.x, .string a.y, .string a.z]) (t := 73) (by first | rfl | (simp only [World.size_alloc]; done) | (simp only [World.size_alloc]; omega) | simp)).alloc _).alloc _) e1)
  have HB1_1 : Hid (Blk w1 (w.heap.size + 1) #[.string b.x, .string b.y, .string b.z] 73) := Lib.hid (Blk.ext ((Blk.new' (w := _) (cs := #[.string b.x, .string b.y, .string b.z]) (t := 73) (by first | rfl | (simp only [World.size_alloc]; done) | (simp only [World.size_alloc]; omega) | simp)).alloc _) e1)
  have HGEB0 : Hid (w.heap.size ≤ w.heap.size) := Lib.hid (by first | omega | (simp only []; omega) | (simp; omega))
  have HGEB1 : Hid (w.heap.size ≤ w.heap.size + 1) := Lib.hid (by first | omega | (simp only []; omega) | (simp; omega))
  clear e1
  go_wp2_with fail
  refine wp_name (fun W => Ext w W ∧ Blk W (w.heap.size) #[.string a.x, .string a.y, .string a.z] 73 ∧ Blk W (w.heap.size + 1) #[.string b.x, .string b.y, .string b.z] 73) ⟨HX1.out, HB0_1.out, HB1_1.out⟩ ?_
  rintro w2 ⟨e2, bB0_2, bB1_2⟩
  have HX2 := Lib.hid e2; have HB0_2 := Lib.hid bB0_2; have HB1_2 := Lib.hid bB1_2
  clear e2 bB0_2 bB1_2
  refine region_lin [.val (.agg #[.string a.x, .string a.y, .string a.z]), .val (.int .i64 0), .val (.agg #[.string b.x, .string b.y, .string b.z]), .val (.int .i64 0), .mem (fun b_ => .slice (some ⟨b_, 0, none⟩) 2 2) #[.int .i64 0, .int .i64 0] 32 Option.none, .val (.int .i64 0), .val (.int .i64 0)] (by kernel_rfl) (by kernel_rfl) (by kernel_rfl) ?_ (fun g2 w3 hx_ hm_ hne_ => ?_)
  · skip
    refine RnL.cons (fun g2 A_ W_ hs_ => ?_) ?_
    · have q2_ := (hs_.old 2 (by kernel_rfl) : A_.tmps[2]?.getD undef = .pointer (some ⟨w.heap.size, 0, none⟩))
      have cB0_0 := (HB0_2.out.drew.ext hs_.1).cell 0 rfl
      have cB0_1 := (HB0_2.out.drew.ext hs_.1).cell 1 rfl
      have cB0_2 := (HB0_2.out.drew.ext hs_.1).cell 2 rfl
      refine Rn.val fun K_ hK_ => ?_
      go_simp
      exact hK_.out _ (Ext.refl _)
    refine RnL.cons (fun g2 A_ W_ hs_ => ?_) ?_
    · have q39_ := hs_.val 0 rfl rfl rfl
      refine Rn.val fun K_ hK_ => ?_
      go_simp
      refine ((HEA.out ▸ ofl_c a _ (HG.out.ext (HX2.out.drew.trans hs_.1)) HAS.out)).mono ?_; rintro e W9_ ⟨rfl, e9_⟩; exact hK_.out _ e9_
    refine RnL.cons (fun g2 A_ W_ hs_ => ?_) ?_
    · have q3_ := (hs_.old 3 (by kernel_rfl) : A_.tmps[3]?.getD undef = .pointer (some ⟨w.heap.size + 1, 0, none⟩))
      have cB1_0 := (HB1_2.out.drew.ext hs_.1).cell 0 rfl
      have cB1_1 := (HB1_2.out.drew.ext hs_.1).cell 1 rfl
      have cB1_2 := (HB1_2.out.drew.ext hs_.1).cell 2 rfl
      refine Rn.val fun K_ hK_ => ?_
      go_simp
      exact hK_.out _ (Ext.refl _)
    refine RnL.cons (fun g2 A_ W_ hs_ => ?_) ?_
    · have q41_ := hs_.val 2 rfl rfl rfl
      refine Rn.val fun K_ hK_ => ?_
      go_simp
      refine ((HEB.out ▸ ofl_c b _ (HG.out.ext (HX2.out.drew.trans hs_.1)) HBS.out)).mono ?_; rintro e W9_ ⟨rfl, e9_⟩; exact hK_.out _ e9_
    refine RnL.cons (fun g2 A_ W_ hs_ => ?_) ?_
    · have q40_ := hs_.val 1 rfl rfl rfl
      have q42_ := hs_.val 3 rfl rfl rfl
      refine Rn.mem fun K_ hK_ => ?_
      go_simp
      exact hK_.out
    refine RnL.cons (fun g2 A_ W_ hs_ => ?_) ?_
    · have q43_ := (hs_.mem 4 rfl rfl rfl).1
      refine Rn.val fun K_ hK_ => ?_
      go_simp
      refine (((by decide : ferr [0, 0] = 0) ▸ first2_c 0 0 (g2 4) _ ((hs_.mem 4 rfl rfl rfl).2.2 rfl))).mono ?_; rintro e _ ⟨rfl, rfl⟩; exact hK_.out _ (Ext.refl _)
    refine RnL.cons (fun g2 A_ W_ hs_ => ?_) ?_
    · have q44_ := hs_.val 5 rfl rfl rfl
      refine Rn.val fun K_ hK_ => ?_
      go_simp
      exact hK_.out _ (Ext.refl _)
    exact RnL.nil
  simp only [fs, Kd.value, puts, Act.put, List.setIfInBounds_toArray, List.set_cons_zero, List.set_cons_succ, Nat.reduceAdd]
  have HX3 : Hid (Ext w w3) := Lib.hid (HX2.out.drew.trans hx_)
  have HB0_3 := Lib.hid (HB0_2.out.drew.ext hx_)
  have HB3_3 : Hid (Blk w3 (g2 4) #[.int .i64 0, .int .i64 0] 32) := Lib.hid (hm_ 4 _ _ _ _ rfl).2; have HGEB3 : Hid (w.heap.size ≤ g2 4) := Lib.hid (Nat.le_trans HX2.out.size (hm_ 4 _ _ _ _ rfl).1)
  have HNEB0B3 : Hid (w.heap.size ≠ g2 4) := Lib.hid (Nat.ne_of_lt (Nat.lt_of_lt_of_le HB0_2.out.lt (hm_ 4 _ _ _ _ rfl).1))
  clear hx_ hm_ hne_
  generalize g2 4 = i3 at *
  clear g2
  have c0_0 := HB0_3.out.cell 0 rfl
  have c0_1 := HB0_3.out.cell 1 rfl
  have c0_2 := HB0_3.out.cell 2 rfl
  go_wp2_with fail
  refine ((HEA.out ▸ ofl_c a _ (HG.out.ext HX3.out) HAS.out)).mono ?_; rintro e w4 ⟨rfl, e4⟩
  have HX4 : Hid (Ext w w4) := Lib.hid (HX3.out.trans e4)
  have HB0_4 := Lib.hid (Blk.ext HB0_3.out e4)
  clear e4 c0_0 c0_1 c0_2
  go_wp2_with fail
  refine (((by decide : ferr [0, 2] = 2) ▸ first2_c 0 2 (w4.heap.size) _ (Blk.new' (w := _) (cs := #[.int .i64 0, .int .i64 2]) (t := 32) (by first | rfl | (simp only [World.size_alloc]; done) | (simp only [World.size_alloc]; omega) | simp)))).mono ?_; rintro e _ ⟨rfl, rfl⟩
  go_wp2_with fail
  refine wp_name (fun W => Ext w W ∧ Blk W (w.heap.size) #[.string a.x, .string a.y, .string a.z] 73) ⟨(HX4.out.alloc _), (HB0_4.out.alloc _)⟩ ?_
  rintro w5 ⟨e5, bB0_5⟩
  have HX5 := Lib.hid e5; have HB0_5 := Lib.hid bB0_5
  clear e5 bB0_5
  refine region_lin [.val (.agg #[.string a.x, .string a.y, .string a.z]), .val (.agg #[.string ⟨#[49]⟩, .string ⟨#[]⟩]), .val (.agg #[.string ⟨#[48]⟩, .string ⟨#[48]⟩]), .val (.tuple #[.string ⟨#[]⟩, .bool false, .int .i64 2]), .val (.tuple #[.string ⟨#[]⟩, .bool false, .int .i64 2]), .val (.string ⟨#[]⟩), .val (.bool false), .val (.int .i64 2), .val (.string ⟨#[]⟩), .val (.bool false), .val (.int .i64 2)] (by kernel_rfl) (by kernel_rfl) (by kernel_rfl) ?_ (fun g5 w6 hx_ hm_ hne_ => ?_)
  · skip
    refine RnL.cons (fun g5 A_ W_ hs_ => ?_) ?_
    · have q2_ := (hs_.old 2 (by kernel_rfl) : A_.tmps[2]?.getD undef = .pointer (some ⟨w.heap.size, 0, none⟩))
      have cB0_0 := (HB0_5.out.drew.ext hs_.1).cell 0 rfl
      have cB0_1 := (HB0_5.out.drew.ext hs_.1).cell 1 rfl
      have cB0_2 := (HB0_5.out.drew.ext hs_.1).cell 2 rfl
      refine Rn.val fun K_ hK_ => ?_
      go_simp
      exact hK_.out _ (Ext.refl _)
    refine RnL.cons (fun g5 A_ W_ hs_ => ?_) ?_
    · refine Rn.val fun K_ hK_ => ?_
      go_simp
      exact hK_.out _ (Ext.refl _)
    refine RnL.cons (fun g5 A_ W_ hs_ => ?_) ?_
    · refine Rn.val fun K_ hK_ => ?_
      go_simp
      refine (kat_0_0 _ (HG.out.ext (HX5.out.drew.trans hs_.1))).mono ?_; rintro e W9_ ⟨rfl, e9_⟩; exact hK_.out _ e9_
    refine RnL.cons (fun g5 A_ W_ hs_ => ?_) ?_
    · have q70_ := hs_.val 0 rfl rfl rfl
      have q71_ := hs_.val 1 rfl rfl rfl
      have q72_ := hs_.val 2 rfl rfl rfl
      refine Rn.val fun K_ hK_ => ?_
      go_simp
      refine (vCut_p a ⟨⟨#[49]⟩, ⟨#[]⟩⟩ ⟨⟨#[48]⟩, ⟨#[48]⟩⟩ _ (HG.out.ext (HX5.out.drew.trans hs_.1)) HAS.out ⟨by decide, by decide⟩ ⟨by decide, by decide⟩ HEA.out cutp_err).mono ?_; rintro e W9_ ⟨rfl, e9_⟩; exact hK_.out _ e9_
    refine RnL.cons (fun g5 A_ W_ hs_ => ?_) ?_
    · have q73_ := hs_.val 3 rfl rfl rfl
      refine Rn.val fun K_ hK_ => ?_
      go_simp
      exact hK_.out _ (Ext.refl _)
    refine RnL.cons (fun g5 A_ W_ hs_ => ?_) ?_
    · have q69_ := hs_.val 4 rfl rfl rfl
      refine Rn.val fun K_ hK_ => ?_
      go_simp
      exact hK_.out _ (Ext.refl _)
    refine RnL.cons (fun g5 A_ W_ hs_ => ?_) ?_
    · have q69_ := hs_.val 4 rfl rfl rfl
      refine Rn.val fun K_ hK_ => ?_
      go_simp
      exact hK_.out _ (Ext.refl _)
    refine RnL.cons (fun g5 A_ W_ hs_ => ?_) ?_
    · have q69_ := hs_.val 4 rfl rfl rfl
      refine Rn.val fun K_ hK_ => ?_
      go_simp
      exact hK_.out _ (Ext.refl _)
    refine RnL.cons (fun g5 A_ W_ hs_ => ?_) ?_
    · have q74_ := hs_.val 5 rfl rfl rfl
      refine Rn.val fun K_ hK_ => ?_
      go_simp
      exact hK_.out _ (Ext.refl _)
    refine RnL.cons (fun g5 A_ W_ hs_ => ?_) ?_
    · have q75_ := hs_.val 6 rfl rfl rfl
      refine Rn.val fun K_ hK_ => ?_
      go_simp
      exact hK_.out _ (Ext.refl _)
    refine RnL.cons (fun g5 A_ W_ hs_ => ?_) ?_
    · have q76_ := hs_.val 7 rfl rfl rfl
      refine Rn.val fun K_ hK_ => ?_
      go_simp
      exact hK_.out _ (Ext.refl _)
    exact RnL.nil
  simp only [fs, Kd.value, puts, Act.put, List.setIfInBounds_toArray, List.set_cons_zero, List.set_cons_succ]
  have HX6 : Hid (Ext w w6) := Lib.hid (HX5.out.drew.trans hx_)
  clear hx_ hm_ hne_
  go_wp2
  go_ret
  exact ⟨rfl, HX6.out⟩

theorem lineerr_walk (a b : T3) (w : World) (g : Gd w) : Calls Tryz.prog 8 #[tv a, tv b] w (Ret w (.bool true)) := by
  by_cases h0 : a.x.size ≤ 40
  case neg => exact lineerr_L0 a b w g  (by omega)
  by_cases h1 : a.y.size ≤ 40
  case neg => exact lineerr_L1 a b w g h0 (by omega)
  by_cases h2 : a.z.size ≤ 40
  case neg => exact lineerr_L2 a b w g h0 h1 (by omega)
  by_cases h3 : b.x.size ≤ 40
  case neg => exact lineerr_L3 a b w g h0 h1 h2 (by omega)
  by_cases h4 : b.y.size ≤ 40
  case neg => exact lineerr_L4 a b w g h0 h1 h2 h3 (by omega)
  by_cases h5 : b.z.size ≤ 40
  case neg => exact lineerr_L5 a b w g h0 h1 h2 h3 h4 (by omega)
  rcases lerr_vals a with ea | ea | ea
  · rcases lerr_vals b with eb | eb | eb
    · exact lineerr_C a b w g h0 h1 h2 h3 h4 h5 ea eb
    · exact lineerr_B2 a b w g h0 h1 h2 h3 h4 h5 ea eb
    · exact lineerr_B17 a b w g h0 h1 h2 h3 h4 h5 ea eb
  · exact lineerr_A2 a b w g h0 h1 h2 h3 h4 h5 ea
  · exact lineerr_A17 a b w g h0 h1 h2 h3 h4 h5 ea
end Go.Proofs.YtglppcmegocphaaGreatDoor
