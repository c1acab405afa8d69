/- Part 40 of the proof: L11. -/
import Derived.Test.YtglppcmegocphaaGreatDoorQU1
import Derived.Test.YtglppcmegocphaaGreatDoorQU2
import Derived.Test.YtglppcmegocphaaGreatDoorQU3
import Derived.Test.YtglppcmegocphaaGreatDoorQU4
import Derived.Test.YtglppcmegocphaaGreatDoorQU5
import Derived.Test.YtglppcmegocphaaGreatDoorQU6
import Derived.Test.YtglppcmegocphaaGreatDoorQU7
import Derived.Test.YtglppcmegocphaaGreatDoorQU8
import Derived.Test.YtglppcmegocphaaGreatDoorQU9
import Derived.Test.YtglppcmegocphaaGreatDoorQU10
import Derived.Test.YtglppcmegocphaaGreatDoorQU11
import Derived.Test.YtglppcmegocphaaGreatDoorQU12
import Derived.Test.YtglppcmegocphaaGreatDoorQU13
import Derived.Test.YtglppcmegocphaaGreatDoorQU14
import Derived.Test.YtglppcmegocphaaGreatDoorQU15
import Derived.Test.YtglppcmegocphaaGreatDoorQU16
import Derived.Test.YtglppcmegocphaaGreatDoorQU17
import Derived.Test.YtglppcmegocphaaGreatDoorQU18
import Derived.Test.YtglppcmegocphaaGreatDoorQU19
import Derived.Test.YtglppcmegocphaaGreatDoorQU20
import Derived.Test.YtglppcmegocphaaGreatDoorQU21
import Derived.Test.YtglppcmegocphaaGreatDoorQU22
import Derived.Test.YtglppcmegocphaaGreatDoorQU23
import Derived.Test.YtglppcmegocphaaGreatDoorQU24
import Derived.Test.YtglppcmegocphaaGreatDoorQU26
import Derived.Test.YtglppcmegocphaaGreatDoorQU32
import Derived.Test.YtglppcmegocphaaGreatDoorQU33
import Derived.Test.YtglppcmegocphaaGreatDoorQU34
import Derived.Test.YtglppcmegocphaaGreatDoorQU35
import Derived.Test.YtglppcmegocphaaGreatDoorQU36
import Derived.Test.YtglppcmegocphaaGreatDoorQU37
import Derived.Test.YtglppcmegocphaaGreatDoorQU38
namespace Go.Proofs.YtglppcmegocphaaGreatDoor
open Go Go.RowKit
theorem perr_2 {l : List T2} (h : (l.all fun t => t.l.all rq) = false) : perr l = 2 := by unfold perr; rw [h]; rfl
theorem perr_0 {l : List T2} (h : (l.all fun t => t.l.all rq) = true) : perr l = 0 := by unfold perr; rw [h]; rfl
theorem rq_x : rq ⟨#[120]⟩ = false := rq_false.2 (by
  rw [rightQ_none (by decide)]
  rintro ⟨n, hn, _⟩
  have := canon_zl n
  rw [← hn] at this
  exact absurd this (by decide))
theorem qb_of_size {q : Rat} {k : Nat} (h : (qs q).size ≤ k) : QB k q := by
  rw [qs_size] at h
  by_cases hd : q.den = 1
  · rw [ql_one hd] at h
    refine ⟨lt_of_zl_len h, ?_⟩
    have := List.length_pos_iff.2 (zl_ne q.num)
    rw [hd]
    exact Nat.one_lt_pow (by omega) (by decide)
  · rw [ql_frac hd, List.length_append, List.length_cons] at h
    exact ⟨lt_of_zl_len (by omega), lt_of_dec_len (by omega)⟩
def lthr (a b : P2) : V3 := ⟨a.y - b.y, b.x - a.x, (a.y - b.y) * a.x + (b.x - a.x) * a.y⟩
theorem lthr_b {a b : P2} (ha : PB 40 a) (hb : PB 40 b) : VB 200 (lthr a b) :=
  ⟨(ha.y.sub hb.y).mono (by decide), (hb.x.sub ha.x).mono (by decide), by
    have h : QB 200 (b.x * a.y - a.x * b.y) := ((hb.x.mul ha.y).sub (ha.x.mul hb.y)).mono (by decide)
    have e : (a.y - b.y) * a.x + (b.x - a.x) * a.y = b.x * a.y - a.x * b.y := by grind
    show QB 200 ((a.y - b.y) * a.x + (b.x - a.x) * a.y)
    rw [e]; exact h⟩
theorem thr_40 (a b : P2) (L : V3) (w : World) (g : Gd w) (hL : lthr a b = L) (h : a ≠ b) (ha : PB 40 a) (hb : PB 40 b) : Calls Tryz.prog 40 #[pv a, pv b] w (Ret w (.tuple #[vv L, .int .i64 0])) := by
  subst hL
  exact vThrough_ok a b w g (ha.mono (by decide)) (hb.mono (by decide)) (lthr_b ha hb) h
theorem pe_ext {a b : P2} (h1 : (qs a.x).toList = (qs b.x).toList) (h2 : (qs a.y).toList = (qs b.y).toList) : a = b := by
  have e : ∀ {x y : Rat}, (qs x).toList = (qs y).toList → x = y := fun {x y} h => by rw [qs_toList, qs_toList] at h; exact ql_inj h
  cases a; cases b
  simp only at h1 h2
  rw [e h1, e h2]

set_option maxRecDepth 100000 in
set_option maxHeartbeats 8000000 in
theorem points_L0 (a b c : T2) (w : World) (g : Gd w) (h0 : 40 < a.x.size) : Calls Tryz.prog 12 #[.agg #[.string a.x, .string a.y], .agg #[.string b.x, .string b.y], .agg #[.string c.x, .string c.y]] w (Ret w (.bool true)) := by
  have HG := Lib.hid g
  clear g
  have t0 : decide ((40 : Int) < (a.x.size : Int)) = true := decide_eq_true (by omega)
  clear h0
  go_enter Tryz.func12, Tryz.ntmps12
  go_wp2_with fail
  refine wp_loop_rounds 4 ?_
  rw [rounds_succ]
  go_wp2_with fail
  refine (known_c _ (HG.out.ext ((((((Ext.refl w).alloc _).alloc _).alloc _).alloc _).alloc _))).mono ?_; rintro e w1 ⟨rfl, e1⟩
  have HX1 : Hid (Ext w w1) := Lib.hid (((((((Ext.refl w).alloc _).alloc _).alloc _).alloc _).alloc _).trans e1)
  clear e1
  go_wp2
  go_ret
  exact ⟨rfl, HX1.out⟩

set_option maxRecDepth 100000 in
set_option maxHeartbeats 8000000 in
theorem points_L1 (a b c : T2) (w : World) (g : Gd w) (h0 : a.x.size ≤ 40) (h1 : 40 < a.y.size) : Calls Tryz.prog 12 #[.agg #[.string a.x, .string a.y], .agg #[.string b.x, .string b.y], .agg #[.string c.x, .string c.y]] w (Ret w (.bool true)) := by
  have HG := Lib.hid g
  clear g
  have t0 : decide ((40 : Int) < (a.x.size : Int)) = false := decide_eq_false (by omega)
  have t1 : decide ((40 : Int) < (a.y.size : Int)) = true := decide_eq_true (by omega)
  clear h0 h1
  go_enter Tryz.func12, Tryz.ntmps12
  go_wp2_with fail
  refine wp_loop_rounds 4 ?_
  rw [rounds_succ]
  go_wp2_with fail
  refine (known_c _ (HG.out.ext ((((((Ext.refl w).alloc _).alloc _).alloc _).alloc _).alloc _))).mono ?_; rintro e w1 ⟨rfl, e1⟩
  have HX1 : Hid (Ext w w1) := Lib.hid (((((((Ext.refl w).alloc _).alloc _).alloc _).alloc _).alloc _).trans e1)
  clear e1
  go_wp2
  go_ret
  exact ⟨rfl, HX1.out⟩

set_option maxRecDepth 100000 in
set_option maxHeartbeats 8000000 in
theorem points_L2 (a b c : T2) (w : World) (g : Gd w) (h0 : a.x.size ≤ 40) (h1 : a.y.size ≤ 40) (h2 : 40 < b.x.size) : Calls Tryz.prog 12 #[.agg #[.string a.x, .string a.y], .agg #[.string b.x, .string b.y], .agg #[.string c.x, .string c.y]] w (Ret w (.bool true)) := by
  have HG := Lib.hid g
  clear g
  have t0 : decide ((40 : Int) < (a.x.size : Int)) = false := decide_eq_false (by omega)
  have t1 : decide ((40 : Int) < (a.y.size : Int)) = false := decide_eq_false (by omega)
  have t2 : decide ((40 : Int) < (b.x.size : Int)) = true := decide_eq_true (by omega)
  clear h0 h1 h2
  go_enter Tryz.func12, Tryz.ntmps12
  go_wp2_with fail
  refine wp_loop_rounds 4 ?_
  rw [rounds_succ]
  go_wp2_with fail
  rw [rounds_succ]
  go_wp2_with fail
  refine (known_c _ (HG.out.ext (((((((Ext.refl w).alloc _).alloc _).alloc _).alloc _).alloc _).alloc _))).mono ?_; rintro e w1 ⟨rfl, e1⟩
  have HX1 : Hid (Ext w w1) := Lib.hid ((((((((Ext.refl w).alloc _).alloc _).alloc _).alloc _).alloc _).alloc _).trans e1)
  clear e1
  go_wp2
  go_ret
  exact ⟨rfl, HX1.out⟩

set_option maxRecDepth 100000 in
set_option maxHeartbeats 8000000 in
theorem points_L3 (a b c : T2) (w : World) (g : Gd w) (h0 : a.x.size ≤ 40) (h1 : a.y.size ≤ 40) (h2 : b.x.size ≤ 40) (h3 : 40 < b.y.size) : Calls Tryz.prog 12 #[.agg #[.string a.x, .string a.y], .agg #[.string b.x, .string b.y], .agg #[.string c.x, .string c.y]] w (Ret w (.bool true)) := by
  have HG := Lib.hid g
  clear g
  have t0 : decide ((40 : Int) < (a.x.size : Int)) = false := decide_eq_false (by omega)
  have t1 : decide ((40 : Int) < (a.y.size : Int)) = false := decide_eq_false (by omega)
  have t2 : decide ((40 : Int) < (b.x.size : Int)) = false := decide_eq_false (by omega)
  have t3 : decide ((40 : Int) < (b.y.size : Int)) = true := decide_eq_true (by omega)
  clear h0 h1 h2 h3
  go_enter Tryz.func12, Tryz.ntmps12
  go_wp2_with fail
  refine wp_loop_rounds 4 ?_
  rw [rounds_succ]
  go_wp2_with fail
  rw [rounds_succ]
  go_wp2_with fail
  refine (known_c _ (HG.out.ext (((((((Ext.refl w).alloc _).alloc _).alloc _).alloc _).alloc _).alloc _))).mono ?_; rintro e w1 ⟨rfl, e1⟩
  have HX1 : Hid (Ext w w1) := Lib.hid ((((((((Ext.refl w).alloc _).alloc _).alloc _).alloc _).alloc _).alloc _).trans e1)
  clear e1
  go_wp2
  go_ret
  exact ⟨rfl, HX1.out⟩

set_option maxRecDepth 100000 in
set_option maxHeartbeats 8000000 in
theorem points_L4 (a b c : T2) (w : World) (g : Gd w) (h0 : a.x.size ≤ 40) (h1 : a.y.size ≤ 40) (h2 : b.x.size ≤ 40) (h3 : b.y.size ≤ 40) (h4 : 40 < c.x.size) : Calls Tryz.prog 12 #[.agg #[.string a.x, .string a.y], .agg #[.string b.x, .string b.y], .agg #[.string c.x, .string c.y]] w (Ret w (.bool true)) := by
  have HG := Lib.hid g
  clear g
  have t0 : decide ((40 : Int) < (a.x.size : Int)) = false := decide_eq_false (by omega)
  have t1 : decide ((40 : Int) < (a.y.size : Int)) = false := decide_eq_false (by omega)
  have t2 : decide ((40 : Int) < (b.x.size : Int)) = false := decide_eq_false (by omega)
  have t3 : decide ((40 : Int) < (b.y.size : Int)) = false := decide_eq_false (by omega)
  have t4 : decide ((40 : Int) < (c.x.size : Int)) = true := decide_eq_true (by omega)
  clear h0 h1 h2 h3 h4
  go_enter Tryz.func12, Tryz.ntmps12
  go_wp2_with fail
  refine wp_loop_rounds 4 ?_
  rw [rounds_succ]
  go_wp2_with fail
  rw [rounds_succ]
  go_wp2_with fail
  rw [rounds_succ]
  go_wp2_with fail
  refine (known_c _ (HG.out.ext ((((((((Ext.refl w).alloc _).alloc _).alloc _).alloc _).alloc _).alloc _).alloc _))).mono ?_; rintro e w1 ⟨rfl, e1⟩
  have HX1 : Hid (Ext w w1) := Lib.hid (((((((((Ext.refl w).alloc _).alloc _).alloc _).alloc _).alloc _).alloc _).alloc _).trans e1)
  clear e1
  go_wp2
  go_ret
  exact ⟨rfl, HX1.out⟩

set_option maxRecDepth 100000 in
set_option maxHeartbeats 8000000 in
theorem points_L5 (a b c : T2) (w : World) (g : Gd w) (h0 : a.x.size ≤ 40) (h1 : a.y.size ≤ 40) (h2 : b.x.size ≤ 40) (h3 : b.y.size ≤ 40) (h4 : c.x.size ≤ 40) (h5 : 40 < c.y.size) : Calls Tryz.prog 12 #[.agg #[.string a.x, .string a.y], .agg #[.string b.x, .string b.y], .agg #[.string c.x, .string c.y]] w (Ret w (.bool true)) := by
  have HG := Lib.hid g
  clear g
  have t0 : decide ((40 : Int) < (a.x.size : Int)) = false := decide_eq_false (by omega)
  have t1 : decide ((40 : Int) < (a.y.size : Int)) = false := decide_eq_false (by omega)
  have t2 : decide ((40 : Int) < (b.x.size : Int)) = false := decide_eq_false (by omega)
  have t3 : decide ((40 : Int) < (b.y.size : Int)) = false := decide_eq_false (by omega)
  have t4 : decide ((40 : Int) < (c.x.size : Int)) = false := decide_eq_false (by omega)
  have t5 : decide ((40 : Int) < (c.y.size : Int)) = true := decide_eq_true (by omega)
  clear h0 h1 h2 h3 h4 h5
  go_enter Tryz.func12, Tryz.ntmps12
  go_wp2_with fail
  refine wp_loop_rounds 4 ?_
  rw [rounds_succ]
  go_wp2_with fail
  rw [rounds_succ]
  go_wp2_with fail
  rw [rounds_succ]
  go_wp2_with fail
  refine (known_c _ (HG.out.ext ((((((((Ext.refl w).alloc _).alloc _).alloc _).alloc _).alloc _).alloc _).alloc _))).mono ?_; rintro e w1 ⟨rfl, e1⟩
  have HX1 : Hid (Ext w w1) := Lib.hid (((((((((Ext.refl w).alloc _).alloc _).alloc _).alloc _).alloc _).alloc _).alloc _).trans e1)
  clear e1
  go_wp2
  go_ret
  exact ⟨rfl, HX1.out⟩

set_option maxRecDepth 100000 in
set_option maxHeartbeats 16000000 in
theorem points_A (a b c : T2) (w : World) (g : Gd w) (h0 : a.x.size ≤ 40) (h1 : a.y.size ≤ 40) (h2 : b.x.size ≤ 40) (h3 : b.y.size ≤ 40) (h4 : c.x.size ≤ 40) (h5 : c.y.size ≤ 40) (hp2 : perr [a, b] = 2) (hp3 : perr [a, b, c] = 2) (hf2 : ferr [terr a.l, terr b.l] = 2) (hf3 : ferr [terr a.l, terr b.l, terr c.l] = 2) : Calls Tryz.prog 12 #[.agg #[.string a.x, .string a.y], .agg #[.string b.x, .string b.y], .agg #[.string c.x, .string c.y]] w (Ret w (.bool true)) := by
  have HP2 := Lib.hid hp2
  have HP3 := Lib.hid hp3
  have HF2 := Lib.hid hf2
  have HF3 := Lib.hid hf3
  have HG := Lib.hid g
  clear hp2 hp3 hf2 hf3 g
  have t0 : decide ((40 : Int) < (a.x.size : Int)) = false := decide_eq_false (by omega)
  have t1 : decide ((40 : Int) < (a.y.size : Int)) = false := decide_eq_false (by omega)
  have t2 : decide ((40 : Int) < (b.x.size : Int)) = false := decide_eq_false (by omega)
  have t3 : decide ((40 : Int) < (b.y.size : Int)) = false := decide_eq_false (by omega)
  have t4 : decide ((40 : Int) < (c.x.size : Int)) = false := decide_eq_false (by omega)
  have t5 : decide ((40 : Int) < (c.y.size : Int)) = false := decide_eq_false (by omega)
  have HAS : Hid (TS2 a) := Lib.hid ⟨Nat.le_trans h0 (by decide), Nat.le_trans h1 (by decide)⟩
  have HBS : Hid (TS2 b) := Lib.hid ⟨Nat.le_trans h2 (by decide), Nat.le_trans h3 (by decide)⟩
  have HCS : Hid (TS2 c) := Lib.hid ⟨Nat.le_trans h4 (by decide), Nat.le_trans h5 (by decide)⟩
  clear h0 h1 h2 h3 h4 h5
  go_enter Tryz.func12, Tryz.ntmps12
  go_wp2_with fail
  refine wp_loop_rounds 4 ?_
  rw [rounds_succ]
  go_wp2_with fail
  rw [rounds_succ]
  go_wp2_with fail
  rw [rounds_succ]
  go_wp2_with fail
  rw [rounds_succ]
  go_wp2_with fail
  refine (known_c _ (HG.out.ext ((((((((Ext.refl w).alloc _).alloc _).alloc _).alloc _).alloc _).alloc _).alloc _))).mono ?_; rintro e w1 ⟨rfl, e1⟩
  have HX1 : Hid (Ext w w1) := Lib.hid (((((((((Ext.refl w).alloc _).alloc _).alloc _).alloc _).alloc _).alloc _).alloc _).trans e1)
  have HB0_1 : Hid (Blk w1 (w.heap.size) #[.string a.x, .string a.y] 62) := Lib.hid (Blk.ext (((((((Blk.new' (w := _) (cs := #[.string a.x, .string a.y]) (t := 62) (by first | rfl | (simp only [World.size_alloc]; done) | (simp only [World.size_alloc]; omega) | simp)).alloc _).alloc _).alloc _).alloc _).alloc _).alloc _) e1)
  have HB1_1 : Hid (Blk w1 (w.heap.size + 1) #[.string b.x, .string b.y] 62) := Lib.hid (Blk.ext ((((((Blk.new' (w := _) (cs := #[.string b.x, .string b.y]) (t := 62) (by first | rfl | (simp only [World.size_alloc]; done) | (simp only [World.size_alloc]; omega) | simp)).alloc _).alloc _).alloc _).alloc _).alloc _) e1)
  have HB2_1 : Hid (Blk w1 (w.heap.size + 1 + 1) #[.string c.x, .string c.y] 62) := Lib.hid (Blk.ext (((((Blk.new' (w := _) (cs := #[.string c.x, .string c.y]) (t := 62) (by first | rfl | (simp only [World.size_alloc]; done) | (simp only [World.size_alloc]; omega) | simp)).alloc _).alloc _).alloc _).alloc _) e1)
  have HGEB0 : Hid (w.heap.size ≤ w.heap.size) := Lib.hid (by first | omega | (simp only []; omega) | (simp; omega))
  have HGEB1 : Hid (w.heap.size ≤ w.heap.size + 1) := Lib.hid (by first | omega | (simp only []; omega) | (simp; omega))
  have HGEB2 : Hid (w.heap.size ≤ w.heap.size + 1 + 1) := Lib.hid (by first | omega | (simp only []; omega) | (simp; omega))
  clear e1
  go_wp2_with fail
  refine wp_name (fun W => Ext w W ∧ Blk W (w.heap.size) #[.string a.x, .string a.y] 62 ∧ Blk W (w.heap.size + 1) #[.string b.x, .string b.y] 62 ∧ Blk W (w.heap.size + 1 + 1) #[.string c.x, .string c.y] 62) ⟨HX1.out, HB0_1.out, HB1_1.out, HB2_1.out⟩ ?_
  rintro w2 ⟨e2, bB0_2, bB1_2, bB2_2⟩
  have HX2 := Lib.hid e2; have HB0_2 := Lib.hid bB0_2; have HB1_2 := Lib.hid bB1_2; have HB2_2 := Lib.hid bB2_2
  clear e2 bB0_2 bB1_2 bB2_2
  refine region_lin [.val (.agg #[.string a.x, .string a.y]), .val (.int .i64 (terr a.l)), .val (.agg #[.string b.x, .string b.y]), .val (.int .i64 (terr b.l)), .val (.agg #[.string c.x, .string c.y]), .val (.int .i64 (terr c.l)), .mem (fun b_ => .slice (some ⟨b_, 0, none⟩) 3 3) #[.int .i64 (terr a.l), .int .i64 (terr b.l), .int .i64 (terr c.l)] 32 Option.none, .val (.int .i64 2), .val (.int .i64 2)] (by kernel_rfl) (by kernel_rfl) (by kernel_rfl) ?_ (fun g2 w3 hx_ hm_ hne_ => ?_)
  · skip
    refine RnL.cons (fun g2 A_ W_ hs_ => ?_) ?_
    · have q3_ := (hs_.old 3 (by kernel_rfl) : A_.tmps[3]?.getD undef = .pointer (some ⟨w.heap.size, 0, none⟩))
      have cB0_0 := (HB0_2.out.drew.ext hs_.1).cell 0 rfl
      have cB0_1 := (HB0_2.out.drew.ext hs_.1).cell 1 rfl
      refine Rn.val fun K_ hK_ => ?_
      go_simp
      exact hK_.out _ (Ext.refl _)
    refine RnL.cons (fun g2 A_ W_ hs_ => ?_) ?_
    · have q43_ := hs_.val 0 rfl rfl rfl
      refine Rn.val fun K_ hK_ => ?_
      go_simp
      refine (ofpe_c a _ (HG.out.ext (HX2.out.drew.trans hs_.1)) HAS.out).mono ?_; rintro e W9_ ⟨rfl, e9_⟩; exact hK_.out _ e9_
    refine RnL.cons (fun g2 A_ W_ hs_ => ?_) ?_
    · have q4_ := (hs_.old 4 (by kernel_rfl) : A_.tmps[4]?.getD undef = .pointer (some ⟨w.heap.size + 1, 0, none⟩))
      have cB1_0 := (HB1_2.out.drew.ext hs_.1).cell 0 rfl
      have cB1_1 := (HB1_2.out.drew.ext hs_.1).cell 1 rfl
      refine Rn.val fun K_ hK_ => ?_
      go_simp
      exact hK_.out _ (Ext.refl _)
    refine RnL.cons (fun g2 A_ W_ hs_ => ?_) ?_
    · have q45_ := hs_.val 2 rfl rfl rfl
      refine Rn.val fun K_ hK_ => ?_
      go_simp
      refine (ofpe_c b _ (HG.out.ext (HX2.out.drew.trans hs_.1)) HBS.out).mono ?_; rintro e W9_ ⟨rfl, e9_⟩; exact hK_.out _ e9_
    refine RnL.cons (fun g2 A_ W_ hs_ => ?_) ?_
    · have q5_ := (hs_.old 5 (by kernel_rfl) : A_.tmps[5]?.getD undef = .pointer (some ⟨w.heap.size + 1 + 1, 0, none⟩))
      have cB2_0 := (HB2_2.out.drew.ext hs_.1).cell 0 rfl
      have cB2_1 := (HB2_2.out.drew.ext hs_.1).cell 1 rfl
      refine Rn.val fun K_ hK_ => ?_
      go_simp
      exact hK_.out _ (Ext.refl _)
    refine RnL.cons (fun g2 A_ W_ hs_ => ?_) ?_
    · have q47_ := hs_.val 4 rfl rfl rfl
      refine Rn.val fun K_ hK_ => ?_
      go_simp
      refine (ofpe_c c _ (HG.out.ext (HX2.out.drew.trans hs_.1)) HCS.out).mono ?_; rintro e W9_ ⟨rfl, e9_⟩; exact hK_.out _ e9_
    refine RnL.cons (fun g2 A_ W_ hs_ => ?_) ?_
    · have q44_ := hs_.val 1 rfl rfl rfl
      have q46_ := hs_.val 3 rfl rfl rfl
      have q48_ := hs_.val 5 rfl rfl rfl
      refine Rn.mem fun K_ hK_ => ?_
      go_simp
      exact hK_.out
    refine RnL.cons (fun g2 A_ W_ hs_ => ?_) ?_
    · have q49_ := (hs_.mem 6 rfl rfl rfl).1
      refine Rn.val fun K_ hK_ => ?_
      go_simp
      refine ((HF3.out ▸ first3_c (terr a.l) (terr b.l) (terr c.l) (g2 6) _ ((hs_.mem 6 rfl rfl rfl).2.2 rfl))).mono ?_; rintro e _ ⟨rfl, rfl⟩; exact hK_.out _ (Ext.refl _)
    refine RnL.cons (fun g2 A_ W_ hs_ => ?_) ?_
    · have q50_ := hs_.val 7 rfl rfl rfl
      refine Rn.val fun K_ hK_ => ?_
      go_simp
      exact hK_.out _ (Ext.refl _)
    exact RnL.nil
  simp only [fs, Kd.value, puts, Act.put, List.setIfInBounds_toArray, List.set_cons_zero, List.set_cons_succ, Nat.reduceAdd]
  have HX3 : Hid (Ext w w3) := Lib.hid (HX2.out.drew.trans hx_)
  have HB0_3 := Lib.hid (HB0_2.out.drew.ext hx_)
  have HB1_3 := Lib.hid (HB1_2.out.drew.ext hx_)
  have HB2_3 := Lib.hid (HB2_2.out.drew.ext hx_)
  have HB7_3 : Hid (Blk w3 (g2 6) #[.int .i64 (terr a.l), .int .i64 (terr b.l), .int .i64 (terr c.l)] 32) := Lib.hid (hm_ 6 _ _ _ _ rfl).2; have HGEB7 : Hid (w.heap.size ≤ g2 6) := Lib.hid (Nat.le_trans HX2.out.size (hm_ 6 _ _ _ _ rfl).1)
  have HNEB0B7 : Hid (w.heap.size ≠ g2 6) := Lib.hid (Nat.ne_of_lt (Nat.lt_of_lt_of_le HB0_2.out.lt (hm_ 6 _ _ _ _ rfl).1))
  have HNEB1B7 : Hid (w.heap.size + 1 ≠ g2 6) := Lib.hid (Nat.ne_of_lt (Nat.lt_of_lt_of_le HB1_2.out.lt (hm_ 6 _ _ _ _ rfl).1))
  have HNEB2B7 : Hid (w.heap.size + 1 + 1 ≠ g2 6) := Lib.hid (Nat.ne_of_lt (Nat.lt_of_lt_of_le HB2_2.out.lt (hm_ 6 _ _ _ _ rfl).1))
  clear hx_ hm_ hne_
  generalize g2 6 = i7 at *
  clear g2
  have c0_0 := HB0_3.out.cell 0 rfl
  have c0_1 := HB0_3.out.cell 1 rfl
  have c1_0 := HB1_3.out.cell 0 rfl
  have c1_1 := HB1_3.out.cell 1 rfl
  have c2_0 := HB2_3.out.cell 0 rfl
  have c2_1 := HB2_3.out.cell 1 rfl
  go_wp2_with fail
  refine (vTurn_err a b c _ (HG.out.ext HX3.out) HAS.out HBS.out HCS.out HP3.out).mono ?_; rintro e w4 ⟨rfl, e4⟩
  have HX4 : Hid (Ext w w4) := Lib.hid (HX3.out.trans e4)
  have HB0_4 := Lib.hid (Blk.ext HB0_3.out e4)
  have HB1_4 := Lib.hid (Blk.ext HB1_3.out e4)
  have HB2_4 := Lib.hid (Blk.ext HB2_3.out e4)
  clear e4 c0_0 c0_1 c1_0 c1_1 c2_0 c2_1
  have c0_0 := HB0_4.out.cell 0 rfl
  have c0_1 := HB0_4.out.cell 1 rfl
  have c1_0 := HB1_4.out.cell 0 rfl
  have c1_1 := HB1_4.out.cell 1 rfl
  have c2_0 := HB2_4.out.cell 0 rfl
  have c2_1 := HB2_4.out.cell 1 rfl
  go_wp2_with fail
  refine (vArea_err a b c _ (HG.out.ext HX4.out) HAS.out HBS.out HCS.out HP3.out).mono ?_; rintro e w5 ⟨rfl, e5⟩
  have HX5 : Hid (Ext w w5) := Lib.hid (HX4.out.trans e5)
  have HB0_5 := Lib.hid (Blk.ext HB0_4.out e5)
  have HB1_5 := Lib.hid (Blk.ext HB1_4.out e5)
  have HB2_5 := Lib.hid (Blk.ext HB2_4.out e5)
  clear e5 c0_0 c0_1 c1_0 c1_1 c2_0 c2_1
  have c0_0 := HB0_5.out.cell 0 rfl
  have c0_1 := HB0_5.out.cell 1 rfl
  have c1_0 := HB1_5.out.cell 0 rfl
  have c1_1 := HB1_5.out.cell 1 rfl
  have c2_0 := HB2_5.out.cell 0 rfl
  have c2_1 := HB2_5.out.cell 1 rfl
  go_wp2_with fail
  refine (vBetween_err a b c _ (HG.out.ext HX5.out) HAS.out HBS.out HCS.out HP3.out).mono ?_; rintro e w6 ⟨rfl, e6⟩
  have HX6 : Hid (Ext w w6) := Lib.hid (HX5.out.trans e6)
  have HB0_6 := Lib.hid (Blk.ext HB0_5.out e6)
  have HB1_6 := Lib.hid (Blk.ext HB1_5.out e6)
  clear e6 c0_0 c0_1 c1_0 c1_1 c2_0 c2_1
  go_wp2_with fail
  refine wp_name (fun W => Ext w W ∧ Blk W (w.heap.size) #[.string a.x, .string a.y] 62 ∧ Blk W (w.heap.size + 1) #[.string b.x, .string b.y] 62) ⟨HX6.out, HB0_6.out, HB1_6.out⟩ ?_
  rintro w7 ⟨e7, bB0_7, bB1_7⟩
  have HX7 := Lib.hid e7; have HB0_7 := Lib.hid bB0_7; have HB1_7 := Lib.hid bB1_7
  clear e7 bB0_7 bB1_7
  refine region_lin [.val (.agg #[.string a.x, .string a.y]), .val (.int .i64 (terr a.l)), .val (.agg #[.string b.x, .string b.y]), .val (.int .i64 (terr b.l)), .mem (fun b_ => .slice (some ⟨b_, 0, none⟩) 2 2) #[.int .i64 (terr a.l), .int .i64 (terr b.l)] 32 Option.none, .val (.int .i64 2), .val (.int .i64 2)] (by kernel_rfl) (by kernel_rfl) (by kernel_rfl) ?_ (fun g7 w8 hx_ hm_ hne_ => ?_)
  · skip
    refine RnL.cons (fun g7 A_ W_ hs_ => ?_) ?_
    · have q3_ := (hs_.old 3 (by kernel_rfl) : A_.tmps[3]?.getD undef = .pointer (some ⟨w.heap.size, 0, none⟩))
      have cB0_0 := (HB0_7.out.drew.ext hs_.1).cell 0 rfl
      have cB0_1 := (HB0_7.out.drew.ext hs_.1).cell 1 rfl
      refine Rn.val fun K_ hK_ => ?_
      go_simp
      exact hK_.out _ (Ext.refl _)
    refine RnL.cons (fun g7 A_ W_ hs_ => ?_) ?_
    · have q98_ := hs_.val 0 rfl rfl rfl
      refine Rn.val fun K_ hK_ => ?_
      go_simp
      refine (ofpe_c a _ (HG.out.ext (HX7.out.drew.trans hs_.1)) HAS.out).mono ?_; rintro e W9_ ⟨rfl, e9_⟩; exact hK_.out _ e9_
    refine RnL.cons (fun g7 A_ W_ hs_ => ?_) ?_
    · have q4_ := (hs_.old 4 (by kernel_rfl) : A_.tmps[4]?.getD undef = .pointer (some ⟨w.heap.size + 1, 0, none⟩))
      have cB1_0 := (HB1_7.out.drew.ext hs_.1).cell 0 rfl
      have cB1_1 := (HB1_7.out.drew.ext hs_.1).cell 1 rfl
      refine Rn.val fun K_ hK_ => ?_
      go_simp
      exact hK_.out _ (Ext.refl _)
    refine RnL.cons (fun g7 A_ W_ hs_ => ?_) ?_
    · have q100_ := hs_.val 2 rfl rfl rfl
      refine Rn.val fun K_ hK_ => ?_
      go_simp
      refine (ofpe_c b _ (HG.out.ext (HX7.out.drew.trans hs_.1)) HBS.out).mono ?_; rintro e W9_ ⟨rfl, e9_⟩; exact hK_.out _ e9_
    refine RnL.cons (fun g7 A_ W_ hs_ => ?_) ?_
    · have q99_ := hs_.val 1 rfl rfl rfl
      have q101_ := hs_.val 3 rfl rfl rfl
      refine Rn.mem fun K_ hK_ => ?_
      go_simp
      exact hK_.out
    refine RnL.cons (fun g7 A_ W_ hs_ => ?_) ?_
    · have q102_ := (hs_.mem 4 rfl rfl rfl).1
      refine Rn.val fun K_ hK_ => ?_
      go_simp
      refine ((HF2.out ▸ first2_c (terr a.l) (terr b.l) (g7 4) _ ((hs_.mem 4 rfl rfl rfl).2.2 rfl))).mono ?_; rintro e _ ⟨rfl, rfl⟩; exact hK_.out _ (Ext.refl _)
    refine RnL.cons (fun g7 A_ W_ hs_ => ?_) ?_
    · have q103_ := hs_.val 5 rfl rfl rfl
      refine Rn.val fun K_ hK_ => ?_
      go_simp
      exact hK_.out _ (Ext.refl _)
    exact RnL.nil
  simp only [fs, Kd.value, puts, Act.put, List.setIfInBounds_toArray, List.set_cons_zero, List.set_cons_succ, Nat.reduceAdd]
  have HX8 : Hid (Ext w w8) := Lib.hid (HX7.out.drew.trans hx_)
  have HB0_8 := Lib.hid (HB0_7.out.drew.ext hx_)
  have HB1_8 := Lib.hid (HB1_7.out.drew.ext hx_)
  have HB8_8 : Hid (Blk w8 (g7 4) #[.int .i64 (terr a.l), .int .i64 (terr b.l)] 32) := Lib.hid (hm_ 4 _ _ _ _ rfl).2; have HGEB8 : Hid (w.heap.size ≤ g7 4) := Lib.hid (Nat.le_trans HX7.out.size (hm_ 4 _ _ _ _ rfl).1)
  have HNEB0B8 : Hid (w.heap.size ≠ g7 4) := Lib.hid (Nat.ne_of_lt (Nat.lt_of_lt_of_le HB0_7.out.lt (hm_ 4 _ _ _ _ rfl).1))
  have HNEB1B8 : Hid (w.heap.size + 1 ≠ g7 4) := Lib.hid (Nat.ne_of_lt (Nat.lt_of_lt_of_le HB1_7.out.lt (hm_ 4 _ _ _ _ rfl).1))
  clear hx_ hm_ hne_
  generalize g7 4 = i8 at *
  clear g7
  have c0_0 := HB0_8.out.cell 0 rfl
  have c0_1 := HB0_8.out.cell 1 rfl
  have c1_0 := HB1_8.out.cell 0 rfl
  have c1_1 := HB1_8.out.cell 1 rfl
  go_wp2_with fail
  refine (vThrough_err a b _ (HG.out.ext HX8.out) HAS.out HBS.out HP2.out).mono ?_; rintro e w9 ⟨rfl, e9⟩
  have HX9 : Hid (Ext w w9) := Lib.hid (HX8.out.trans e9)
  have HB0_9 := Lib.hid (Blk.ext HB0_8.out e9)
  have HB1_9 := Lib.hid (Blk.ext HB1_8.out e9)
  clear e9 c0_0 c0_1 c1_0 c1_1
  go_upto_region 18 with fail
  refine wp_name (fun W => Ext w W ∧ Blk W (w.heap.size) #[.string a.x, .string a.y] 62 ∧ Blk W (w.heap.size + 1) #[.string b.x, .string b.y] 62 ∧ Blk W (w9.heap.size) #[.string ⟨#[]⟩, .string ⟨#[]⟩, .string ⟨#[]⟩] 73) ⟨(HX9.out.alloc _), (HB0_9.out.alloc _), (HB1_9.out.alloc _), (Blk.new' (w := _) (cs := #[.string ⟨#[]⟩, .string ⟨#[]⟩, .string ⟨#[]⟩]) (t := 73) (by first | rfl | (simp only [World.size_alloc]; done) | (simp only [World.size_alloc]; omega) | simp))⟩ ?_
  rintro w10 ⟨e10, bB0_10, bB1_10, bB9_10⟩
  have HX10 := Lib.hid e10; have HB0_10 := Lib.hid bB0_10; have HB1_10 := Lib.hid bB1_10; have HB9_10 := Lib.hid bB9_10
  have HGEB9 : Hid (w.heap.size ≤ w9.heap.size) := Lib.hid (by have := HX9.out.size; first | omega | (simp only []; omega) | (simp; omega))
  clear e10 bB0_10 bB1_10 bB9_10
  have c0_0 := HB0_10.out.cell 0 rfl
  have c0_1 := HB0_10.out.cell 1 rfl
  have c1_0 := HB1_10.out.cell 0 rfl
  have c1_1 := HB1_10.out.cell 1 rfl
  go_wp2_with fail
  refine (vToward_err a b ⟨#[120]⟩ _ (HG.out.ext HX10.out) HAS.out HBS.out HP2.out).mono ?_; rintro e w11 ⟨rfl, e11⟩
  have HX11 : Hid (Ext w w11) := Lib.hid (HX10.out.trans e11)
  have HB9_11 := Lib.hid (Blk.ext HB9_10.out e11)
  clear e11 c0_0 c0_1 c1_0 c1_1
  go_upto_region 23 with fail
  refine wp_name (fun W => Ext w W ∧ Blk W (w9.heap.size) #[.string ⟨#[]⟩, .string ⟨#[]⟩, .string ⟨#[]⟩] 73 ∧ Blk W (w11.heap.size) #[.string ⟨#[]⟩, .string ⟨#[]⟩] 62) ⟨(HX11.out.alloc _), (HB9_11.out.alloc _), (Blk.new' (w := _) (cs := #[.string ⟨#[]⟩, .string ⟨#[]⟩]) (t := 62) (by first | rfl | (simp only [World.size_alloc]; done) | (simp only [World.size_alloc]; omega) | simp))⟩ ?_
  rintro w12 ⟨e12, bB9_12, bB10_12⟩
  have HX12 := Lib.hid e12; have HB9_12 := Lib.hid bB9_12; have HB10_12 := Lib.hid bB10_12
  have HGEB10 : Hid (w.heap.size ≤ w11.heap.size) := Lib.hid (by have := HX11.out.size; first | omega | (simp only []; omega) | (simp; omega))
  clear e12 bB9_12 bB10_12
  have c9_0 := HB9_12.out.cell 0 rfl
  have c9_1 := HB9_12.out.cell 1 rfl
  have c9_2 := HB9_12.out.cell 2 rfl
  have c10_0 := HB10_12.out.cell 0 rfl
  have c10_1 := HB10_12.out.cell 1 rfl
  go_wp2
  go_ret
  exact ⟨rfl, HX12.out⟩

set_option maxRecDepth 100000 in
set_option maxHeartbeats 16000000 in
theorem points_B0 (a b : P2) (c : T2) (w : World) (g : Gd w) (h0 : (qs a.x).size ≤ 40) (h1 : (qs a.y).size ≤ 40) (h2 : (qs b.x).size ≤ 40) (h3 : (qs b.y).size ≤ 40) (h4 : c.x.size ≤ 40) (h5 : c.y.size ≤ 40) (hcw : c.l.all rq = false) (hab : a ≠ b) : Calls Tryz.prog 12 #[.agg #[.string (qs a.x), .string (qs a.y)], .agg #[.string (qs b.x), .string (qs b.y)], .agg #[.string c.x, .string c.y]] w (Ret w (.bool true)) := by
  have HCW := Lib.hid hcw
  have HAB := Lib.hid hab
  have HG := Lib.hid g
  clear hcw hab g
  have t0 : decide ((40 : Int) < ((qs a.x).size : Int)) = false := decide_eq_false (by omega)
  have t1 : decide ((40 : Int) < ((qs a.y).size : Int)) = false := decide_eq_false (by omega)
  have t2 : decide ((40 : Int) < ((qs b.x).size : Int)) = false := decide_eq_false (by omega)
  have t3 : decide ((40 : Int) < ((qs b.y).size : Int)) = false := decide_eq_false (by omega)
  have t4 : decide ((40 : Int) < (c.x.size : Int)) = false := decide_eq_false (by omega)
  have t5 : decide ((40 : Int) < (c.y.size : Int)) = false := decide_eq_false (by omega)
  have HAS : Hid (TS2 ⟨qs a.x, qs a.y⟩) := Lib.hid ⟨Nat.le_trans h0 (by decide), Nat.le_trans h1 (by decide)⟩
  have HA4 : Hid (PB 40 a) := Lib.hid ⟨qb_of_size h0, qb_of_size h1⟩
  have HA : Hid (PB 200 a) := Lib.hid (HA4.out.mono (by decide))
  have HBS : Hid (TS2 ⟨qs b.x, qs b.y⟩) := Lib.hid ⟨Nat.le_trans h2 (by decide), Nat.le_trans h3 (by decide)⟩
  have HB4 : Hid (PB 40 b) := Lib.hid ⟨qb_of_size h2, qb_of_size h3⟩
  have HB : Hid (PB 200 b) := Lib.hid (HB4.out.mono (by decide))
  have HCS : Hid (TS2 c) := Lib.hid ⟨Nat.le_trans h4 (by decide), Nat.le_trans h5 (by decide)⟩
  have HTX : Hid (terr [⟨#[120]⟩] = 2) := Lib.hid (terr_2 (by simp [rq_x]))
  have HP2 : Hid (perr [⟨qs a.x, qs a.y⟩, ⟨qs b.x, qs b.y⟩] = 0) := Lib.hid (perr_0 (by simp only [List.all_cons, List.all_nil, HA.out.all, HB.out.all, Bool.and_true]))
  have HP3 : Hid (perr [⟨qs a.x, qs a.y⟩, ⟨qs b.x, qs b.y⟩, c] = 2) := Lib.hid (perr_2 (by simp only [List.all_cons, HA.out.all, HB.out.all, HCW.out, Bool.true_and, Bool.false_and]))
  obtain ⟨L, eL⟩ : ∃ L, lthr a b = L := ⟨_, rfl⟩
  have HLE := Lib.hid eL; have HL : Hid (VB 200 L) := Lib.hid (eL ▸ lthr_b HA4.out HB4.out); clear eL
  clear h0 h1 h2 h3 h4 h5
  go_enter Tryz.func12, Tryz.ntmps12
  go_wp2_with fail
  refine wp_loop_rounds 4 ?_
  rw [rounds_succ]
  go_wp2_with fail
  rw [rounds_succ]
  go_wp2_with fail
  rw [rounds_succ]
  go_wp2_with fail
  rw [rounds_succ]
  go_wp2_with fail
  refine (known_c _ (HG.out.ext ((((((((Ext.refl w).alloc _).alloc _).alloc _).alloc _).alloc _).alloc _).alloc _))).mono ?_; rintro e w1 ⟨rfl, e1⟩
  have HX1 : Hid (Ext w w1) := Lib.hid (((((((((Ext.refl w).alloc _).alloc _).alloc _).alloc _).alloc _).alloc _).alloc _).trans e1)
  have HB0_1 : Hid (Blk w1 (w.heap.size) #[.string (qs a.x), .string (qs a.y)] 62) := Lib.hid (Blk.ext (((((((Blk.new' (w := _) (cs := #[.string (qs a.x), .string (qs a.y)]) (t := 62) (by first | rfl | (simp only [World.size_alloc]; done) | (simp only [World.size_alloc]; omega) | simp)).alloc _).alloc _).alloc _).alloc _).alloc _).alloc _) e1)
  have HB1_1 : Hid (Blk w1 (w.heap.size + 1) #[.string (qs b.x), .string (qs b.y)] 62) := Lib.hid (Blk.ext ((((((Blk.new' (w := _) (cs := #[.string (qs b.x), .string (qs b.y)]) (t := 62) (by first | rfl | (simp only [World.size_alloc]; done) | (simp only [World.size_alloc]; omega) | simp)).alloc _).alloc _).alloc _).alloc _).alloc _) e1)
  have HB2_1 : Hid (Blk w1 (w.heap.size + 1 + 1) #[.string c.x, .string c.y] 62) := Lib.hid (Blk.ext (((((Blk.new' (w := _) (cs := #[.string c.x, .string c.y]) (t := 62) (by first | rfl | (simp only [World.size_alloc]; done) | (simp only [World.size_alloc]; omega) | simp)).alloc _).alloc _).alloc _).alloc _) e1)
  have HGEB0 : Hid (w.heap.size ≤ w.heap.size) := Lib.hid (by first | omega | (simp only []; omega) | (simp; omega))
  have HGEB1 : Hid (w.heap.size ≤ w.heap.size + 1) := Lib.hid (by first | omega | (simp only []; omega) | (simp; omega))
  have HGEB2 : Hid (w.heap.size ≤ w.heap.size + 1 + 1) := Lib.hid (by first | omega | (simp only []; omega) | (simp; omega))
  clear e1
  go_wp2_with fail
  refine wp_name (fun W => Ext w W ∧ Blk W (w.heap.size) #[.string (qs a.x), .string (qs a.y)] 62 ∧ Blk W (w.heap.size + 1) #[.string (qs b.x), .string (qs b.y)] 62 ∧ Blk W (w.heap.size + 1 + 1) #[.string c.x, .string c.y] 62) ⟨HX1.out, HB0_1.out, HB1_1.out, HB2_1.out⟩ ?_
  rintro w2 ⟨e2, bB0_2, bB1_2, bB2_2⟩
  have HX2 := Lib.hid e2; have HB0_2 := Lib.hid bB0_2; have HB1_2 := Lib.hid bB1_2; have HB2_2 := Lib.hid bB2_2
  clear e2 bB0_2 bB1_2 bB2_2
  refine region_lin [.val (.agg #[.string (qs a.x), .string (qs a.y)]), .val (.int .i64 0), .val (.agg #[.string (qs b.x), .string (qs b.y)]), .val (.int .i64 0), .val (.agg #[.string c.x, .string c.y]), .val (.int .i64 2), .mem (fun b_ => .slice (some ⟨b_, 0, none⟩) 3 3) #[.int .i64 0, .int .i64 0, .int .i64 2] 32 Option.none, .val (.int .i64 2), .val (.int .i64 2)] (by kernel_rfl) (by kernel_rfl) (by kernel_rfl) ?_ (fun g2 w3 hx_ hm_ hne_ => ?_)
  · skip
    refine RnL.cons (fun g2 A_ W_ hs_ => ?_) ?_
    · have q3_ := (hs_.old 3 (by kernel_rfl) : A_.tmps[3]?.getD undef = .pointer (some ⟨w.heap.size, 0, none⟩))
      have cB0_0 := (HB0_2.out.drew.ext hs_.1).cell 0 rfl
      have cB0_1 := (HB0_2.out.drew.ext hs_.1).cell 1 rfl
      refine Rn.val fun K_ hK_ => ?_
      go_simp
      exact hK_.out _ (Ext.refl _)
    refine RnL.cons (fun g2 A_ W_ hs_ => ?_) ?_
    · have q43_ := hs_.val 0 rfl rfl rfl
      refine Rn.val fun K_ hK_ => ?_
      go_simp
      refine (ofp_0 ⟨qs a.x, qs a.y⟩ _ (HG.out.ext (HX2.out.drew.trans hs_.1)) HAS.out HA.out.all).mono ?_; rintro e W9_ ⟨rfl, e9_⟩; exact hK_.out _ e9_
    refine RnL.cons (fun g2 A_ W_ hs_ => ?_) ?_
    · have q4_ := (hs_.old 4 (by kernel_rfl) : A_.tmps[4]?.getD undef = .pointer (some ⟨w.heap.size + 1, 0, none⟩))
      have cB1_0 := (HB1_2.out.drew.ext hs_.1).cell 0 rfl
      have cB1_1 := (HB1_2.out.drew.ext hs_.1).cell 1 rfl
      refine Rn.val fun K_ hK_ => ?_
      go_simp
      exact hK_.out _ (Ext.refl _)
    refine RnL.cons (fun g2 A_ W_ hs_ => ?_) ?_
    · have q45_ := hs_.val 2 rfl rfl rfl
      refine Rn.val fun K_ hK_ => ?_
      go_simp
      refine (ofp_0 ⟨qs b.x, qs b.y⟩ _ (HG.out.ext (HX2.out.drew.trans hs_.1)) HBS.out HB.out.all).mono ?_; rintro e W9_ ⟨rfl, e9_⟩; exact hK_.out _ e9_
    refine RnL.cons (fun g2 A_ W_ hs_ => ?_) ?_
    · have q5_ := (hs_.old 5 (by kernel_rfl) : A_.tmps[5]?.getD undef = .pointer (some ⟨w.heap.size + 1 + 1, 0, none⟩))
      have cB2_0 := (HB2_2.out.drew.ext hs_.1).cell 0 rfl
      have cB2_1 := (HB2_2.out.drew.ext hs_.1).cell 1 rfl
      refine Rn.val fun K_ hK_ => ?_
      go_simp
      exact hK_.out _ (Ext.refl _)
    refine RnL.cons (fun g2 A_ W_ hs_ => ?_) ?_
    · have q47_ := hs_.val 4 rfl rfl rfl
      refine Rn.val fun K_ hK_ => ?_
      go_simp
      refine (ofp_2 c _ (HG.out.ext (HX2.out.drew.trans hs_.1)) HCS.out HCW.out).mono ?_; rintro e W9_ ⟨rfl, e9_⟩; exact hK_.out _ e9_
    refine RnL.cons (fun g2 A_ W_ hs_ => ?_) ?_
    · have q44_ := hs_.val 1 rfl rfl rfl
      have q46_ := hs_.val 3 rfl rfl rfl
      have q48_ := hs_.val 5 rfl rfl rfl
      refine Rn.mem fun K_ hK_ => ?_
      go_simp
      exact hK_.out
    refine RnL.cons (fun g2 A_ W_ hs_ => ?_) ?_
    · have q49_ := (hs_.mem 6 rfl rfl rfl).1
      refine Rn.val fun K_ hK_ => ?_
      go_simp
      refine (((by decide : ferr [0, 0, 2] = 2) ▸ first3_c 0 0 2 (g2 6) _ ((hs_.mem 6 rfl rfl rfl).2.2 rfl))).mono ?_; rintro e _ ⟨rfl, rfl⟩; exact hK_.out _ (Ext.refl _)
    refine RnL.cons (fun g2 A_ W_ hs_ => ?_) ?_
    · have q50_ := hs_.val 7 rfl rfl rfl
      refine Rn.val fun K_ hK_ => ?_
      go_simp
      exact hK_.out _ (Ext.refl _)
    exact RnL.nil
  simp only [fs, Kd.value, puts, Act.put, List.setIfInBounds_toArray, List.set_cons_zero, List.set_cons_succ, Nat.reduceAdd]
  have HX3 : Hid (Ext w w3) := Lib.hid (HX2.out.drew.trans hx_)
  have HB0_3 := Lib.hid (HB0_2.out.drew.ext hx_)
  have HB1_3 := Lib.hid (HB1_2.out.drew.ext hx_)
  have HB2_3 := Lib.hid (HB2_2.out.drew.ext hx_)
  have HB7_3 : Hid (Blk w3 (g2 6) #[.int .i64 0, .int .i64 0, .int .i64 2] 32) := Lib.hid (hm_ 6 _ _ _ _ rfl).2; have HGEB7 : Hid (w.heap.size ≤ g2 6) := Lib.hid (Nat.le_trans HX2.out.size (hm_ 6 _ _ _ _ rfl).1)
  have HNEB0B7 : Hid (w.heap.size ≠ g2 6) := Lib.hid (Nat.ne_of_lt (Nat.lt_of_lt_of_le HB0_2.out.lt (hm_ 6 _ _ _ _ rfl).1))
  have HNEB1B7 : Hid (w.heap.size + 1 ≠ g2 6) := Lib.hid (Nat.ne_of_lt (Nat.lt_of_lt_of_le HB1_2.out.lt (hm_ 6 _ _ _ _ rfl).1))
  have HNEB2B7 : Hid (w.heap.size + 1 + 1 ≠ g2 6) := Lib.hid (Nat.ne_of_lt (Nat.lt_of_lt_of_le HB2_2.out.lt (hm_ 6 _ _ _ _ rfl).1))
  clear hx_ hm_ hne_
  generalize g2 6 = i7 at *
  clear g2
  have c0_0 := HB0_3.out.cell 0 rfl
  have c0_1 := HB0_3.out.cell 1 rfl
  have c1_0 := HB1_3.out.cell 0 rfl
  have c1_1 := HB1_3.out.cell 1 rfl
  have c2_0 := HB2_3.out.cell 0 rfl
  have c2_1 := HB2_3.out.cell 1 rfl
  go_wp2_with fail
  refine (vTurn_err ⟨qs a.x, qs a.y⟩ ⟨qs b.x, qs b.y⟩ c _ (HG.out.ext HX3.out) HAS.out HBS.out HCS.out HP3.out).mono ?_; rintro e w4 ⟨rfl, e4⟩
  have HX4 : Hid (Ext w w4) := Lib.hid (HX3.out.trans e4)
  have HB0_4 := Lib.hid (Blk.ext HB0_3.out e4)
  have HB1_4 := Lib.hid (Blk.ext HB1_3.out e4)
  have HB2_4 := Lib.hid (Blk.ext HB2_3.out e4)
  clear e4 c0_0 c0_1 c1_0 c1_1 c2_0 c2_1
  have c0_0 := HB0_4.out.cell 0 rfl
  have c0_1 := HB0_4.out.cell 1 rfl
  have c1_0 := HB1_4.out.cell 0 rfl
  have c1_1 := HB1_4.out.cell 1 rfl
  have c2_0 := HB2_4.out.cell 0 rfl
  have c2_1 := HB2_4.out.cell 1 rfl
  go_wp2_with fail
  refine (vArea_err ⟨qs a.x, qs a.y⟩ ⟨qs b.x, qs b.y⟩ c _ (HG.out.ext HX4.out) HAS.out HBS.out HCS.out HP3.out).mono ?_; rintro e w5 ⟨rfl, e5⟩
  have HX5 : Hid (Ext w w5) := Lib.hid (HX4.out.trans e5)
  have HB0_5 := Lib.hid (Blk.ext HB0_4.out e5)
  have HB1_5 := Lib.hid (Blk.ext HB1_4.out e5)
  have HB2_5 := Lib.hid (Blk.ext HB2_4.out e5)
  clear e5 c0_0 c0_1 c1_0 c1_1 c2_0 c2_1
  have c0_0 := HB0_5.out.cell 0 rfl
  have c0_1 := HB0_5.out.cell 1 rfl
  have c1_0 := HB1_5.out.cell 0 rfl
  have c1_1 := HB1_5.out.cell 1 rfl
  have c2_0 := HB2_5.out.cell 0 rfl
  have c2_1 := HB2_5.out.cell 1 rfl
  go_wp2_with fail
  refine (vBetween_err ⟨qs a.x, qs a.y⟩ ⟨qs b.x, qs b.y⟩ c _ (HG.out.ext HX5.out) HAS.out HBS.out HCS.out HP3.out).mono ?_; rintro e w6 ⟨rfl, e6⟩
  have HX6 : Hid (Ext w w6) := Lib.hid (HX5.out.trans e6)
  have HB0_6 := Lib.hid (Blk.ext HB0_5.out e6)
  have HB1_6 := Lib.hid (Blk.ext HB1_5.out e6)
  clear e6 c0_0 c0_1 c1_0 c1_1 c2_0 c2_1
  go_wp2_with fail
  refine wp_name (fun W => Ext w W ∧ Blk W (w.heap.size) #[.string (qs a.x), .string (qs a.y)] 62 ∧ Blk W (w.heap.size + 1) #[.string (qs b.x), .string (qs b.y)] 62) ⟨HX6.out, HB0_6.out, HB1_6.out⟩ ?_
  rintro w7 ⟨e7, bB0_7, bB1_7⟩
  have HX7 := Lib.hid e7; have HB0_7 := Lib.hid bB0_7; have HB1_7 := Lib.hid bB1_7
  clear e7 bB0_7 bB1_7
  refine region_lin [.val (.agg #[.string (qs a.x), .string (qs a.y)]), .val (.int .i64 0), .val (.agg #[.string (qs b.x), .string (qs b.y)]), .val (.int .i64 0), .mem (fun b_ => .slice (some ⟨b_, 0, none⟩) 2 2) #[.int .i64 0, .int .i64 0] 32 Option.none, .val (.int .i64 0), .val (.int .i64 0)] (by kernel_rfl) (by kernel_rfl) (by kernel_rfl) ?_ (fun g7 w8 hx_ hm_ hne_ => ?_)
  · skip
    refine RnL.cons (fun g7 A_ W_ hs_ => ?_) ?_
    · have q3_ := (hs_.old 3 (by kernel_rfl) : A_.tmps[3]?.getD undef = .pointer (some ⟨w.heap.size, 0, none⟩))
      have cB0_0 := (HB0_7.out.drew.ext hs_.1).cell 0 rfl
      have cB0_1 := (HB0_7.out.drew.ext hs_.1).cell 1 rfl
      refine Rn.val fun K_ hK_ => ?_
      go_simp
      exact hK_.out _ (Ext.refl _)
    refine RnL.cons (fun g7 A_ W_ hs_ => ?_) ?_
    · have q98_ := hs_.val 0 rfl rfl rfl
      refine Rn.val fun K_ hK_ => ?_
      go_simp
      refine (ofp_0 ⟨qs a.x, qs a.y⟩ _ (HG.out.ext (HX7.out.drew.trans hs_.1)) HAS.out HA.out.all).mono ?_; rintro e W9_ ⟨rfl, e9_⟩; exact hK_.out _ e9_
    refine RnL.cons (fun g7 A_ W_ hs_ => ?_) ?_
    · have q4_ := (hs_.old 4 (by kernel_rfl) : A_.tmps[4]?.getD undef = .pointer (some ⟨w.heap.size + 1, 0, none⟩))
      have cB1_0 := (HB1_7.out.drew.ext hs_.1).cell 0 rfl
      have cB1_1 := (HB1_7.out.drew.ext hs_.1).cell 1 rfl
      refine Rn.val fun K_ hK_ => ?_
      go_simp
      exact hK_.out _ (Ext.refl _)
    refine RnL.cons (fun g7 A_ W_ hs_ => ?_) ?_
    · have q100_ := hs_.val 2 rfl rfl rfl
      refine Rn.val fun K_ hK_ => ?_
      go_simp
      refine (ofp_0 ⟨qs b.x, qs b.y⟩ _ (HG.out.ext (HX7.out.drew.trans hs_.1)) HBS.out HB.out.all).mono ?_; rintro e W9_ ⟨rfl, e9_⟩; exact hK_.out _ e9_
    refine RnL.cons (fun g7 A_ W_ hs_ => ?_) ?_
    · have q99_ := hs_.val 1 rfl rfl rfl
      have q101_ := hs_.val 3 rfl rfl rfl
      refine Rn.mem fun K_ hK_ => ?_
      go_simp
      exact hK_.out
    refine RnL.cons (fun g7 A_ W_ hs_ => ?_) ?_
    · have q102_ := (hs_.mem 4 rfl rfl rfl).1
      refine Rn.val fun K_ hK_ => ?_
      go_simp
      refine (((by decide : ferr [0, 0] = 0) ▸ first2_c 0 0 (g7 4) _ ((hs_.mem 4 rfl rfl rfl).2.2 rfl))).mono ?_; rintro e _ ⟨rfl, rfl⟩; exact hK_.out _ (Ext.refl _)
    refine RnL.cons (fun g7 A_ W_ hs_ => ?_) ?_
    · have q103_ := hs_.val 5 rfl rfl rfl
      refine Rn.val fun K_ hK_ => ?_
      go_simp
      exact hK_.out _ (Ext.refl _)
    exact RnL.nil
  simp only [fs, Kd.value, puts, Act.put, List.setIfInBounds_toArray, List.set_cons_zero, List.set_cons_succ, Nat.reduceAdd]
  have HX8 : Hid (Ext w w8) := Lib.hid (HX7.out.drew.trans hx_)
  have HB0_8 := Lib.hid (HB0_7.out.drew.ext hx_)
  have HB1_8 := Lib.hid (HB1_7.out.drew.ext hx_)
  have HB8_8 : Hid (Blk w8 (g7 4) #[.int .i64 0, .int .i64 0] 32) := Lib.hid (hm_ 4 _ _ _ _ rfl).2; have HGEB8 : Hid (w.heap.size ≤ g7 4) := Lib.hid (Nat.le_trans HX7.out.size (hm_ 4 _ _ _ _ rfl).1)
  have HNEB0B8 : Hid (w.heap.size ≠ g7 4) := Lib.hid (Nat.ne_of_lt (Nat.lt_of_lt_of_le HB0_7.out.lt (hm_ 4 _ _ _ _ rfl).1))
  have HNEB1B8 : Hid (w.heap.size + 1 ≠ g7 4) := Lib.hid (Nat.ne_of_lt (Nat.lt_of_lt_of_le HB1_7.out.lt (hm_ 4 _ _ _ _ rfl).1))
  clear hx_ hm_ hne_
  generalize g7 4 = i8 at *
  clear g7
  have c0_0 := HB0_8.out.cell 0 rfl
  have c0_1 := HB0_8.out.cell 1 rfl
  have c1_0 := HB1_8.out.cell 0 rfl
  have c1_1 := HB1_8.out.cell 1 rfl
  go_wp2_with fail
  refine (thr_40 a b L _ (HG.out.ext HX8.out) HLE.out HAB.out HA4.out HB4.out).mono ?_; rintro e w9 ⟨rfl, e9⟩
  have HX9 : Hid (Ext w w9) := Lib.hid (HX8.out.trans e9)
  have HB0_9 := Lib.hid (Blk.ext HB0_8.out e9)
  have HB1_9 := Lib.hid (Blk.ext HB1_8.out e9)
  clear e9 c0_0 c0_1 c1_0 c1_1
  go_upto_region 18 with fail
  refine wp_name (fun W => Ext w W ∧ Blk W (w.heap.size) #[.string (qs a.x), .string (qs a.y)] 62 ∧ Blk W (w.heap.size + 1) #[.string (qs b.x), .string (qs b.y)] 62) ⟨(HX9.out.alloc _), (HB0_9.out.alloc _), (HB1_9.out.alloc _)⟩ ?_
  rintro w10 ⟨e10, bB0_10, bB1_10⟩
  have HX10 := Lib.hid e10; have HB0_10 := Lib.hid bB0_10; have HB1_10 := Lib.hid bB1_10
  clear e10 bB0_10 bB1_10
  have c0_0 := HB0_10.out.cell 0 rfl
  have c0_1 := HB0_10.out.cell 1 rfl
  have c1_0 := HB1_10.out.cell 0 rfl
  have c1_1 := HB1_10.out.cell 1 rfl
  go_wp2_with fail
  refine (vToward_err2 ⟨qs a.x, qs a.y⟩ ⟨qs b.x, qs b.y⟩ ⟨#[120]⟩ _ (HG.out.ext HX10.out) HAS.out HBS.out HP2.out (by decide) HTX.out).mono ?_; rintro e w11 ⟨rfl, e11⟩
  have HX11 : Hid (Ext w w11) := Lib.hid (HX10.out.trans e11)
  have HB0_11 := Lib.hid (Blk.ext HB0_10.out e11)
  have HB1_11 := Lib.hid (Blk.ext HB1_10.out e11)
  clear e11 c0_0 c0_1 c1_0 c1_1
  go_upto_region 20 with fail
  refine wp_name (fun W => Ext w W ∧ Blk W (w.heap.size) #[.string (qs a.x), .string (qs a.y)] 62 ∧ Blk W (w.heap.size + 1) #[.string (qs b.x), .string (qs b.y)] 62 ∧ Blk W (w11.heap.size) #[.string ⟨#[]⟩, .string ⟨#[]⟩] 62) ⟨(HX11.out.alloc _), (HB0_11.out.alloc _), (HB1_11.out.alloc _), (Blk.new' (w := _) (cs := #[.string ⟨#[]⟩, .string ⟨#[]⟩]) (t := 62) (by first | rfl | (simp only [World.size_alloc]; done) | (simp only [World.size_alloc]; omega) | simp))⟩ ?_
  rintro w12 ⟨e12, bB0_12, bB1_12, bB10_12⟩
  have HX12 := Lib.hid e12; have HB0_12 := Lib.hid bB0_12; have HB1_12 := Lib.hid bB1_12; have HB10_12 := Lib.hid bB10_12
  have HGEB10 : Hid (w.heap.size ≤ w11.heap.size) := Lib.hid (by have := HX11.out.size; first | omega | (simp only []; omega) | (simp; omega))
  clear e12 bB0_12 bB1_12 bB10_12
  go_cut [120] from 118 to 120 (fun s_ wx => s_ = .bool false ∧ w12 = wx)
  case first =>
    have cB0_0 := HB0_12.out.cell 0 rfl
    have cB0_1 := HB0_12.out.cell 1 rfl
    have cB1_0 := HB1_12.out.cell 0 rfl
    have cB1_1 := HB1_12.out.cell 1 rfl
    go_wp2_with fail
    all_goals first | (go_meet; exact ⟨rfl, rfl⟩) | (exact absurd (pe_ext (by assumption) (by assumption)) HAB.out)
  obtain ⟨rfl, rfl⟩ := hcut
  have c10_0 := HB10_12.out.cell 0 rfl
  have c10_1 := HB10_12.out.cell 1 rfl
  go_wp2
  go_ret
  exact ⟨rfl, HX12.out⟩

set_option maxRecDepth 100000 in
set_option maxHeartbeats 16000000 in
theorem points_B1 (a : P2) (c : T2) (w : World) (g : Gd w) (h0 : (qs a.x).size ≤ 40) (h1 : (qs a.y).size ≤ 40) (h4 : c.x.size ≤ 40) (h5 : c.y.size ≤ 40) (hcw : c.l.all rq = false) : Calls Tryz.prog 12 #[.agg #[.string (qs a.x), .string (qs a.y)], .agg #[.string (qs a.x), .string (qs a.y)], .agg #[.string c.x, .string c.y]] w (Ret w (.bool true)) := by
  have HCW := Lib.hid hcw
  have HG := Lib.hid g
  clear hcw g
  have t0 : decide ((40 : Int) < ((qs a.x).size : Int)) = false := decide_eq_false (by omega)
  have t1 : decide ((40 : Int) < ((qs a.y).size : Int)) = false := decide_eq_false (by omega)
  have t4 : decide ((40 : Int) < (c.x.size : Int)) = false := decide_eq_false (by omega)
  have t5 : decide ((40 : Int) < (c.y.size : Int)) = false := decide_eq_false (by omega)
  have HAS : Hid (TS2 ⟨qs a.x, qs a.y⟩) := Lib.hid ⟨Nat.le_trans h0 (by decide), Nat.le_trans h1 (by decide)⟩
  have HA4 : Hid (PB 40 a) := Lib.hid ⟨qb_of_size h0, qb_of_size h1⟩
  have HA : Hid (PB 200 a) := Lib.hid (HA4.out.mono (by decide))
  have HCS : Hid (TS2 c) := Lib.hid ⟨Nat.le_trans h4 (by decide), Nat.le_trans h5 (by decide)⟩
  have HTX : Hid (terr [⟨#[120]⟩] = 2) := Lib.hid (terr_2 (by simp [rq_x]))
  have HP2 : Hid (perr [⟨qs a.x, qs a.y⟩, ⟨qs a.x, qs a.y⟩] = 0) := Lib.hid (perr_0 (by simp only [List.all_cons, List.all_nil, HA.out.all, Bool.and_true]))
  have HP3 : Hid (perr [⟨qs a.x, qs a.y⟩, ⟨qs a.x, qs a.y⟩, c] = 2) := Lib.hid (perr_2 (by simp only [List.all_cons, HA.out.all, HCW.out, Bool.true_and, Bool.false_and]))
  clear h0 h1 h4 h5
  go_enter Tryz.func12, Tryz.ntmps12
  go_wp2_with fail
  refine wp_loop_rounds 4 ?_
  rw [rounds_succ]
  go_wp2_with fail
  rw [rounds_succ]
  go_wp2_with fail
  rw [rounds_succ]
  go_wp2_with fail
  rw [rounds_succ]
  go_wp2_with fail
  refine (known_c _ (HG.out.ext ((((((((Ext.refl w).alloc _).alloc _).alloc _).alloc _).alloc _).alloc _).alloc _))).mono ?_; rintro e w1 ⟨rfl, e1⟩
  have HX1 : Hid (Ext w w1) := Lib.hid (((((((((Ext.refl w).alloc _).alloc _).alloc _).alloc _).alloc _).alloc _).alloc _).trans e1)
  have HB0_1 : Hid (Blk w1 (w.heap.size) #[.string (qs a.x), .string (qs a.y)] 62) := Lib.hid (Blk.ext (((((((Blk.new' (w := _) (cs := #[.string (qs a.x), .string (qs a.y)]) (t := 62) (by first | rfl | (simp only [World.size_alloc]; done) | (simp only [World.size_alloc]; omega) | simp)).alloc _).alloc _).alloc _).alloc _).alloc _).alloc _) e1)
  have HB1_1 : Hid (Blk w1 (w.heap.size + 1) #[.string (qs a.x), .string (qs a.y)] 62) := Lib.hid (Blk.ext ((((((Blk.new' (w := _) (cs := #[.string (qs a.x), .string (qs a.y)]) (t := 62) (by first | rfl | (simp only [World.size_alloc]; done) | (simp only [World.size_alloc]; omega) | simp)).alloc _).alloc _).alloc _).alloc _).alloc _) e1)
  have HB2_1 : Hid (Blk w1 (w.heap.size + 1 + 1) #[.string c.x, .string c.y] 62) := Lib.hid (Blk.ext (((((Blk.new' (w := _) (cs := #[.string c.x, .string c.y]) (t := 62) (by first | rfl | (simp only [World.size_alloc]; done) | (simp only [World.size_alloc]; omega) | simp)).alloc _).alloc _).alloc _).alloc _) e1)
  have HGEB0 : Hid (w.heap.size ≤ w.heap.size) := Lib.hid (by first | omega | (simp only []; omega) | (simp; omega))
  have HGEB1 : Hid (w.heap.size ≤ w.heap.size + 1) := Lib.hid (by first | omega | (simp only []; omega) | (simp; omega))
  have HGEB2 : Hid (w.heap.size ≤ w.heap.size + 1 + 1) := Lib.hid (by first | omega | (simp only []; omega) | (simp; omega))
  clear e1
  go_wp2_with fail
  refine wp_name (fun W => Ext w W ∧ Blk W (w.heap.size) #[.string (qs a.x), .string (qs a.y)] 62 ∧ Blk W (w.heap.size + 1) #[.string (qs a.x), .string (qs a.y)] 62 ∧ Blk W (w.heap.size + 1 + 1) #[.string c.x, .string c.y] 62) ⟨HX1.out, HB0_1.out, HB1_1.out, HB2_1.out⟩ ?_
  rintro w2 ⟨e2, bB0_2, bB1_2, bB2_2⟩
  have HX2 := Lib.hid e2; have HB0_2 := Lib.hid bB0_2; have HB1_2 := Lib.hid bB1_2; have HB2_2 := Lib.hid bB2_2
  clear e2 bB0_2 bB1_2 bB2_2
  refine region_lin [.val (.agg #[.string (qs a.x), .string (qs a.y)]), .val (.int .i64 0), .val (.agg #[.string (qs a.x), .string (qs a.y)]), .val (.int .i64 0), .val (.agg #[.string c.x, .string c.y]), .val (.int .i64 2), .mem (fun b_ => .slice (some ⟨b_, 0, none⟩) 3 3) #[.int .i64 0, .int .i64 0, .int .i64 2] 32 Option.none, .val (.int .i64 2), .val (.int .i64 2)] (by kernel_rfl) (by kernel_rfl) (by kernel_rfl) ?_ (fun g2 w3 hx_ hm_ hne_ => ?_)
  · skip
    refine RnL.cons (fun g2 A_ W_ hs_ => ?_) ?_
    · have q3_ := (hs_.old 3 (by kernel_rfl) : A_.tmps[3]?.getD undef = .pointer (some ⟨w.heap.size, 0, none⟩))
      have cB0_0 := (HB0_2.out.drew.ext hs_.1).cell 0 rfl
      have cB0_1 := (HB0_2.out.drew.ext hs_.1).cell 1 rfl
      refine Rn.val fun K_ hK_ => ?_
      go_simp
      exact hK_.out _ (Ext.refl _)
    refine RnL.cons (fun g2 A_ W_ hs_ => ?_) ?_
    · have q43_ := hs_.val 0 rfl rfl rfl
      refine Rn.val fun K_ hK_ => ?_
      go_simp
      refine (ofp_0 ⟨qs a.x, qs a.y⟩ _ (HG.out.ext (HX2.out.drew.trans hs_.1)) HAS.out HA.out.all).mono ?_; rintro e W9_ ⟨rfl, e9_⟩; exact hK_.out _ e9_
    refine RnL.cons (fun g2 A_ W_ hs_ => ?_) ?_
    · have q4_ := (hs_.old 4 (by kernel_rfl) : A_.tmps[4]?.getD undef = .pointer (some ⟨w.heap.size + 1, 0, none⟩))
      have cB1_0 := (HB1_2.out.drew.ext hs_.1).cell 0 rfl
      have cB1_1 := (HB1_2.out.drew.ext hs_.1).cell 1 rfl
      refine Rn.val fun K_ hK_ => ?_
      go_simp
      exact hK_.out _ (Ext.refl _)
    refine RnL.cons (fun g2 A_ W_ hs_ => ?_) ?_
    · have q45_ := hs_.val 2 rfl rfl rfl
      refine Rn.val fun K_ hK_ => ?_
      go_simp
      refine (ofp_0 ⟨qs a.x, qs a.y⟩ _ (HG.out.ext (HX2.out.drew.trans hs_.1)) HAS.out HA.out.all).mono ?_; rintro e W9_ ⟨rfl, e9_⟩; exact hK_.out _ e9_
    refine RnL.cons (fun g2 A_ W_ hs_ => ?_) ?_
    · have q5_ := (hs_.old 5 (by kernel_rfl) : A_.tmps[5]?.getD undef = .pointer (some ⟨w.heap.size + 1 + 1, 0, none⟩))
      have cB2_0 := (HB2_2.out.drew.ext hs_.1).cell 0 rfl
      have cB2_1 := (HB2_2.out.drew.ext hs_.1).cell 1 rfl
      refine Rn.val fun K_ hK_ => ?_
      go_simp
      exact hK_.out _ (Ext.refl _)
    refine RnL.cons (fun g2 A_ W_ hs_ => ?_) ?_
    · have q47_ := hs_.val 4 rfl rfl rfl
      refine Rn.val fun K_ hK_ => ?_
      go_simp
      refine (ofp_2 c _ (HG.out.ext (HX2.out.drew.trans hs_.1)) HCS.out HCW.out).mono ?_; rintro e W9_ ⟨rfl, e9_⟩; exact hK_.out _ e9_
    refine RnL.cons (fun g2 A_ W_ hs_ => ?_) ?_
    · have q44_ := hs_.val 1 rfl rfl rfl
      have q46_ := hs_.val 3 rfl rfl rfl
      have q48_ := hs_.val 5 rfl rfl rfl
      refine Rn.mem fun K_ hK_ => ?_
      go_simp
      exact hK_.out
    refine RnL.cons (fun g2 A_ W_ hs_ => ?_) ?_
    · have q49_ := (hs_.mem 6 rfl rfl rfl).1
      refine Rn.val fun K_ hK_ => ?_
      go_simp
      refine (((by decide : ferr [0, 0, 2] = 2) ▸ first3_c 0 0 2 (g2 6) _ ((hs_.mem 6 rfl rfl rfl).2.2 rfl))).mono ?_; rintro e _ ⟨rfl, rfl⟩; exact hK_.out _ (Ext.refl _)
    refine RnL.cons (fun g2 A_ W_ hs_ => ?_) ?_
    · have q50_ := hs_.val 7 rfl rfl rfl
      refine Rn.val fun K_ hK_ => ?_
      go_simp
      exact hK_.out _ (Ext.refl _)
    exact RnL.nil
  simp only [fs, Kd.value, puts, Act.put, List.setIfInBounds_toArray, List.set_cons_zero, List.set_cons_succ, Nat.reduceAdd]
  have HX3 : Hid (Ext w w3) := Lib.hid (HX2.out.drew.trans hx_)
  have HB0_3 := Lib.hid (HB0_2.out.drew.ext hx_)
  have HB1_3 := Lib.hid (HB1_2.out.drew.ext hx_)
  have HB2_3 := Lib.hid (HB2_2.out.drew.ext hx_)
  have HB7_3 : Hid (Blk w3 (g2 6) #[.int .i64 0, .int .i64 0, .int .i64 2] 32) := Lib.hid (hm_ 6 _ _ _ _ rfl).2; have HGEB7 : Hid (w.heap.size ≤ g2 6) := Lib.hid (Nat.le_trans HX2.out.size (hm_ 6 _ _ _ _ rfl).1)
  have HNEB0B7 : Hid (w.heap.size ≠ g2 6) := Lib.hid (Nat.ne_of_lt (Nat.lt_of_lt_of_le HB0_2.out.lt (hm_ 6 _ _ _ _ rfl).1))
  have HNEB1B7 : Hid (w.heap.size + 1 ≠ g2 6) := Lib.hid (Nat.ne_of_lt (Nat.lt_of_lt_of_le HB1_2.out.lt (hm_ 6 _ _ _ _ rfl).1))
  have HNEB2B7 : Hid (w.heap.size + 1 + 1 ≠ g2 6) := Lib.hid (Nat.ne_of_lt (Nat.lt_of_lt_of_le HB2_2.out.lt (hm_ 6 _ _ _ _ rfl).1))
  clear hx_ hm_ hne_
  generalize g2 6 = i7 at *
  clear g2
  have c0_0 := HB0_3.out.cell 0 rfl
  have c0_1 := HB0_3.out.cell 1 rfl
  have c1_0 := HB1_3.out.cell 0 rfl
  have c1_1 := HB1_3.out.cell 1 rfl
  have c2_0 := HB2_3.out.cell 0 rfl
  have c2_1 := HB2_3.out.cell 1 rfl
  go_wp2_with fail
  refine (vTurn_err ⟨qs a.x, qs a.y⟩ ⟨qs a.x, qs a.y⟩ c _ (HG.out.ext HX3.out) HAS.out HAS.out HCS.out HP3.out).mono ?_; rintro e w4 ⟨rfl, e4⟩
  have HX4 : Hid (Ext w w4) := Lib.hid (HX3.out.trans e4)
  have HB0_4 := Lib.hid (Blk.ext HB0_3.out e4)
  have HB1_4 := Lib.hid (Blk.ext HB1_3.out e4)
  have HB2_4 := Lib.hid (Blk.ext HB2_3.out e4)
  clear e4 c0_0 c0_1 c1_0 c1_1 c2_0 c2_1
  have c0_0 := HB0_4.out.cell 0 rfl
  have c0_1 := HB0_4.out.cell 1 rfl
  have c1_0 := HB1_4.out.cell 0 rfl
  have c1_1 := HB1_4.out.cell 1 rfl
  have c2_0 := HB2_4.out.cell 0 rfl
  have c2_1 := HB2_4.out.cell 1 rfl
  go_wp2_with fail
  refine (vArea_err ⟨qs a.x, qs a.y⟩ ⟨qs a.x, qs a.y⟩ c _ (HG.out.ext HX4.out) HAS.out HAS.out HCS.out HP3.out).mono ?_; rintro e w5 ⟨rfl, e5⟩
  have HX5 : Hid (Ext w w5) := Lib.hid (HX4.out.trans e5)
  have HB0_5 := Lib.hid (Blk.ext HB0_4.out e5)
  have HB1_5 := Lib.hid (Blk.ext HB1_4.out e5)
  have HB2_5 := Lib.hid (Blk.ext HB2_4.out e5)
  clear e5 c0_0 c0_1 c1_0 c1_1 c2_0 c2_1
  have c0_0 := HB0_5.out.cell 0 rfl
  have c0_1 := HB0_5.out.cell 1 rfl
  have c1_0 := HB1_5.out.cell 0 rfl
  have c1_1 := HB1_5.out.cell 1 rfl
  have c2_0 := HB2_5.out.cell 0 rfl
  have c2_1 := HB2_5.out.cell 1 rfl
  go_wp2_with fail
  refine (vBetween_err ⟨qs a.x, qs a.y⟩ ⟨qs a.x, qs a.y⟩ c _ (HG.out.ext HX5.out) HAS.out HAS.out HCS.out HP3.out).mono ?_; rintro e w6 ⟨rfl, e6⟩
  have HX6 : Hid (Ext w w6) := Lib.hid (HX5.out.trans e6)
  have HB0_6 := Lib.hid (Blk.ext HB0_5.out e6)
  have HB1_6 := Lib.hid (Blk.ext HB1_5.out e6)
  clear e6 c0_0 c0_1 c1_0 c1_1 c2_0 c2_1
  go_wp2_with fail
  refine wp_name (fun W => Ext w W ∧ Blk W (w.heap.size) #[.string (qs a.x), .string (qs a.y)] 62 ∧ Blk W (w.heap.size + 1) #[.string (qs a.x), .string (qs a.y)] 62) ⟨HX6.out, HB0_6.out, HB1_6.out⟩ ?_
  rintro w7 ⟨e7, bB0_7, bB1_7⟩
  have HX7 := Lib.hid e7; have HB0_7 := Lib.hid bB0_7; have HB1_7 := Lib.hid bB1_7
  clear e7 bB0_7 bB1_7
  refine region_lin [.val (.agg #[.string (qs a.x), .string (qs a.y)]), .val (.int .i64 0), .val (.agg #[.string (qs a.x), .string (qs a.y)]), .val (.int .i64 0), .mem (fun b_ => .slice (some ⟨b_, 0, none⟩) 2 2) #[.int .i64 0, .int .i64 0] 32 Option.none, .val (.int .i64 0), .val (.int .i64 0)] (by kernel_rfl) (by kernel_rfl) (by kernel_rfl) ?_ (fun g7 w8 hx_ hm_ hne_ => ?_)
  · skip
    refine RnL.cons (fun g7 A_ W_ hs_ => ?_) ?_
    · have q3_ := (hs_.old 3 (by kernel_rfl) : A_.tmps[3]?.getD undef = .pointer (some ⟨w.heap.size, 0, none⟩))
      have cB0_0 := (HB0_7.out.drew.ext hs_.1).cell 0 rfl
      have cB0_1 := (HB0_7.out.drew.ext hs_.1).cell 1 rfl
      refine Rn.val fun K_ hK_ => ?_
      go_simp
      exact hK_.out _ (Ext.refl _)
    refine RnL.cons (fun g7 A_ W_ hs_ => ?_) ?_
    · have q98_ := hs_.val 0 rfl rfl rfl
      refine Rn.val fun K_ hK_ => ?_
      go_simp
      refine (ofp_0 ⟨qs a.x, qs a.y⟩ _ (HG.out.ext (HX7.out.drew.trans hs_.1)) HAS.out HA.out.all).mono ?_; rintro e W9_ ⟨rfl, e9_⟩; exact hK_.out _ e9_
    refine RnL.cons (fun g7 A_ W_ hs_ => ?_) ?_
    · have q4_ := (hs_.old 4 (by kernel_rfl) : A_.tmps[4]?.getD undef = .pointer (some ⟨w.heap.size + 1, 0, none⟩))
      have cB1_0 := (HB1_7.out.drew.ext hs_.1).cell 0 rfl
      have cB1_1 := (HB1_7.out.drew.ext hs_.1).cell 1 rfl
      refine Rn.val fun K_ hK_ => ?_
      go_simp
      exact hK_.out _ (Ext.refl _)
    refine RnL.cons (fun g7 A_ W_ hs_ => ?_) ?_
    · have q100_ := hs_.val 2 rfl rfl rfl
      refine Rn.val fun K_ hK_ => ?_
      go_simp
      refine (ofp_0 ⟨qs a.x, qs a.y⟩ _ (HG.out.ext (HX7.out.drew.trans hs_.1)) HAS.out HA.out.all).mono ?_; rintro e W9_ ⟨rfl, e9_⟩; exact hK_.out _ e9_
    refine RnL.cons (fun g7 A_ W_ hs_ => ?_) ?_
    · have q99_ := hs_.val 1 rfl rfl rfl
      have q101_ := hs_.val 3 rfl rfl rfl
      refine Rn.mem fun K_ hK_ => ?_
      go_simp
      exact hK_.out
    refine RnL.cons (fun g7 A_ W_ hs_ => ?_) ?_
    · have q102_ := (hs_.mem 4 rfl rfl rfl).1
      refine Rn.val fun K_ hK_ => ?_
      go_simp
      refine (((by decide : ferr [0, 0] = 0) ▸ first2_c 0 0 (g7 4) _ ((hs_.mem 4 rfl rfl rfl).2.2 rfl))).mono ?_; rintro e _ ⟨rfl, rfl⟩; exact hK_.out _ (Ext.refl _)
    refine RnL.cons (fun g7 A_ W_ hs_ => ?_) ?_
    · have q103_ := hs_.val 5 rfl rfl rfl
      refine Rn.val fun K_ hK_ => ?_
      go_simp
      exact hK_.out _ (Ext.refl _)
    exact RnL.nil
  simp only [fs, Kd.value, puts, Act.put, List.setIfInBounds_toArray, List.set_cons_zero, List.set_cons_succ, Nat.reduceAdd]
  have HX8 : Hid (Ext w w8) := Lib.hid (HX7.out.drew.trans hx_)
  have HB0_8 := Lib.hid (HB0_7.out.drew.ext hx_)
  have HB1_8 := Lib.hid (HB1_7.out.drew.ext hx_)
  have HB8_8 : Hid (Blk w8 (g7 4) #[.int .i64 0, .int .i64 0] 32) := Lib.hid (hm_ 4 _ _ _ _ rfl).2; have HGEB8 : Hid (w.heap.size ≤ g7 4) := Lib.hid (Nat.le_trans HX7.out.size (hm_ 4 _ _ _ _ rfl).1)
  have HNEB0B8 : Hid (w.heap.size ≠ g7 4) := Lib.hid (Nat.ne_of_lt (Nat.lt_of_lt_of_le HB0_7.out.lt (hm_ 4 _ _ _ _ rfl).1))
  have HNEB1B8 : Hid (w.heap.size + 1 ≠ g7 4) := Lib.hid (Nat.ne_of_lt (Nat.lt_of_lt_of_le HB1_7.out.lt (hm_ 4 _ _ _ _ rfl).1))
  clear hx_ hm_ hne_
  generalize g7 4 = i8 at *
  clear g7
  have c0_0 := HB0_8.out.cell 0 rfl
  have c0_1 := HB0_8.out.cell 1 rfl
  have c1_0 := HB1_8.out.cell 0 rfl
  have c1_1 := HB1_8.out.cell 1 rfl
  go_wp2_with fail
  refine (vThrough_same a _ (HG.out.ext HX8.out) HA.out).mono ?_; rintro e w9 ⟨rfl, e9⟩
  have HX9 : Hid (Ext w w9) := Lib.hid (HX8.out.trans e9)
  have HB0_9 := Lib.hid (Blk.ext HB0_8.out e9)
  have HB1_9 := Lib.hid (Blk.ext HB1_8.out e9)
  clear e9 c0_0 c0_1 c1_0 c1_1
  go_upto_region 18 with fail
  refine wp_name (fun W => Ext w W ∧ Blk W (w.heap.size) #[.string (qs a.x), .string (qs a.y)] 62 ∧ Blk W (w.heap.size + 1) #[.string (qs a.x), .string (qs a.y)] 62 ∧ Blk W (w9.heap.size) #[.string ⟨#[]⟩, .string ⟨#[]⟩, .string ⟨#[]⟩] 73) ⟨(HX9.out.alloc _), (HB0_9.out.alloc _), (HB1_9.out.alloc _), (Blk.new' (w := _) (cs := #[.string ⟨#[]⟩, .string ⟨#[]⟩, .string ⟨#[]⟩]) (t := 73) (by first | rfl | (simp only [World.size_alloc]; done) | (simp only [World.size_alloc]; omega) | simp))⟩ ?_
  rintro w10 ⟨e10, bB0_10, bB1_10, bB9_10⟩
  have HX10 := Lib.hid e10; have HB0_10 := Lib.hid bB0_10; have HB1_10 := Lib.hid bB1_10; have HB9_10 := Lib.hid bB9_10
  have HGEB9 : Hid (w.heap.size ≤ w9.heap.size) := Lib.hid (by have := HX9.out.size; first | omega | (simp only []; omega) | (simp; omega))
  clear e10 bB0_10 bB1_10 bB9_10
  have c0_0 := HB0_10.out.cell 0 rfl
  have c0_1 := HB0_10.out.cell 1 rfl
  have c1_0 := HB1_10.out.cell 0 rfl
  have c1_1 := HB1_10.out.cell 1 rfl
  go_wp2_with fail
  refine (vToward_err2 ⟨qs a.x, qs a.y⟩ ⟨qs a.x, qs a.y⟩ ⟨#[120]⟩ _ (HG.out.ext HX10.out) HAS.out HAS.out HP2.out (by decide) HTX.out).mono ?_; rintro e w11 ⟨rfl, e11⟩
  have HX11 : Hid (Ext w w11) := Lib.hid (HX10.out.trans e11)
  have HB0_11 := Lib.hid (Blk.ext HB0_10.out e11)
  have HB1_11 := Lib.hid (Blk.ext HB1_10.out e11)
  have HB9_11 := Lib.hid (Blk.ext HB9_10.out e11)
  clear e11 c0_0 c0_1 c1_0 c1_1
  go_upto_region 20 with fail
  refine wp_name (fun W => Ext w W ∧ Blk W (w.heap.size) #[.string (qs a.x), .string (qs a.y)] 62 ∧ Blk W (w.heap.size + 1) #[.string (qs a.x), .string (qs a.y)] 62 ∧ Blk W (w9.heap.size) #[.string ⟨#[]⟩, .string ⟨#[]⟩, .string ⟨#[]⟩] 73) ⟨(HX11.out.alloc _), (HB0_11.out.alloc _), (HB1_11.out.alloc _), (HB9_11.out.alloc _)⟩ ?_
  rintro w12 ⟨e12, bB0_12, bB1_12, bB9_12⟩
  have HX12 := Lib.hid e12; have HB0_12 := Lib.hid bB0_12; have HB1_12 := Lib.hid bB1_12; have HB9_12 := Lib.hid bB9_12
  clear e12 bB0_12 bB1_12 bB9_12
  have c0_0 := HB0_12.out.cell 0 rfl
  have c0_1 := HB0_12.out.cell 1 rfl
  have c1_0 := HB1_12.out.cell 0 rfl
  have c1_1 := HB1_12.out.cell 1 rfl
  have c9_0 := HB9_12.out.cell 0 rfl
  have c9_1 := HB9_12.out.cell 1 rfl
  have c9_2 := HB9_12.out.cell 2 rfl
  go_wp2
  go_ret
  exact ⟨rfl, HX12.out⟩

set_option maxRecDepth 100000 in
set_option maxHeartbeats 16000000 in
theorem points_C0 (a b : P2) (c : T2) (w : World) (g : Gd w) (h0 : (qs a.x).size ≤ 40) (h1 : (qs a.y).size ≤ 40) (h2 : (qs b.x).size ≤ 40) (h3 : (qs b.y).size ≤ 40) (h4 : c.x.size ≤ 40) (h5 : c.y.size ≤ 40) (hcw : c.l.all rq = true) (hab : a ≠ b) : Calls Tryz.prog 12 #[.agg #[.string (qs a.x), .string (qs a.y)], .agg #[.string (qs b.x), .string (qs b.y)], .agg #[.string c.x, .string c.y]] w (Ret w (.bool true)) := by
  have HCW := Lib.hid hcw
  have HAB := Lib.hid hab
  have HG := Lib.hid g
  clear hcw hab g
  have t0 : decide ((40 : Int) < ((qs a.x).size : Int)) = false := decide_eq_false (by omega)
  have t1 : decide ((40 : Int) < ((qs a.y).size : Int)) = false := decide_eq_false (by omega)
  have t2 : decide ((40 : Int) < ((qs b.x).size : Int)) = false := decide_eq_false (by omega)
  have t3 : decide ((40 : Int) < ((qs b.y).size : Int)) = false := decide_eq_false (by omega)
  have t4 : decide ((40 : Int) < (c.x.size : Int)) = false := decide_eq_false (by omega)
  have t5 : decide ((40 : Int) < (c.y.size : Int)) = false := decide_eq_false (by omega)
  have HAS : Hid (TS2 ⟨qs a.x, qs a.y⟩) := Lib.hid ⟨Nat.le_trans h0 (by decide), Nat.le_trans h1 (by decide)⟩
  have HA4 : Hid (PB 40 a) := Lib.hid ⟨qb_of_size h0, qb_of_size h1⟩
  have HA : Hid (PB 200 a) := Lib.hid (HA4.out.mono (by decide))
  have HBS : Hid (TS2 ⟨qs b.x, qs b.y⟩) := Lib.hid ⟨Nat.le_trans h2 (by decide), Nat.le_trans h3 (by decide)⟩
  have HB4 : Hid (PB 40 b) := Lib.hid ⟨qb_of_size h2, qb_of_size h3⟩
  have HB : Hid (PB 200 b) := Lib.hid (HB4.out.mono (by decide))
  have HCS : Hid (TS2 c) := Lib.hid ⟨Nat.le_trans h4 (by decide), Nat.le_trans h5 (by decide)⟩
  have HTX : Hid (terr [⟨#[120]⟩] = 2) := Lib.hid (terr_2 (by simp [rq_x]))
  have HP2 : Hid (perr [⟨qs a.x, qs a.y⟩, ⟨qs b.x, qs b.y⟩] = 0) := Lib.hid (perr_0 (by simp only [List.all_cons, List.all_nil, HA.out.all, HB.out.all, Bool.and_true]))
  obtain ⟨L, eL⟩ : ∃ L, lthr a b = L := ⟨_, rfl⟩
  have HLE := Lib.hid eL; have HL : Hid (VB 200 L) := Lib.hid (eL ▸ lthr_b HA4.out HB4.out); clear eL
  clear h0 h1 h2 h3 h4 h5
  go_enter Tryz.func12, Tryz.ntmps12
  go_wp2_with fail
  refine wp_loop_rounds 4 ?_
  rw [rounds_succ]
  go_wp2_with fail
  rw [rounds_succ]
  go_wp2_with fail
  rw [rounds_succ]
  go_wp2_with fail
  rw [rounds_succ]
  go_wp2_with fail
  refine (known_c _ (HG.out.ext ((((((((Ext.refl w).alloc _).alloc _).alloc _).alloc _).alloc _).alloc _).alloc _))).mono ?_; rintro e w1 ⟨rfl, e1⟩
  have HX1 : Hid (Ext w w1) := Lib.hid (((((((((Ext.refl w).alloc _).alloc _).alloc _).alloc _).alloc _).alloc _).alloc _).trans e1)
  have HB0_1 : Hid (Blk w1 (w.heap.size) #[.string (qs a.x), .string (qs a.y)] 62) := Lib.hid (Blk.ext (((((((Blk.new' (w := _) (cs := #[.string (qs a.x), .string (qs a.y)]) (t := 62) (by first | rfl | (simp only [World.size_alloc]; done) | (simp only [World.size_alloc]; omega) | simp)).alloc _).alloc _).alloc _).alloc _).alloc _).alloc _) e1)
  have HB1_1 : Hid (Blk w1 (w.heap.size + 1) #[.string (qs b.x), .string (qs b.y)] 62) := Lib.hid (Blk.ext ((((((Blk.new' (w := _) (cs := #[.string (qs b.x), .string (qs b.y)]) (t := 62) (by first | rfl | (simp only [World.size_alloc]; done) | (simp only [World.size_alloc]; omega) | simp)).alloc _).alloc _).alloc _).alloc _).alloc _) e1)
  have HB2_1 : Hid (Blk w1 (w.heap.size + 1 + 1) #[.string c.x, .string c.y] 62) := Lib.hid (Blk.ext (((((Blk.new' (w := _) (cs := #[.string c.x, .string c.y]) (t := 62) (by first | rfl | (simp only [World.size_alloc]; done) | (simp only [World.size_alloc]; omega) | simp)).alloc _).alloc _).alloc _).alloc _) e1)
  have HGEB0 : Hid (w.heap.size ≤ w.heap.size) := Lib.hid (by first | omega | (simp only []; omega) | (simp; omega))
  have HGEB1 : Hid (w.heap.size ≤ w.heap.size + 1) := Lib.hid (by first | omega | (simp only []; omega) | (simp; omega))
  have HGEB2 : Hid (w.heap.size ≤ w.heap.size + 1 + 1) := Lib.hid (by first | omega | (simp only []; omega) | (simp; omega))
  clear e1
  go_wp2_with fail
  refine wp_name (fun W => Ext w W ∧ Blk W (w.heap.size) #[.string (qs a.x), .string (qs a.y)] 62 ∧ Blk W (w.heap.size + 1) #[.string (qs b.x), .string (qs b.y)] 62 ∧ Blk W (w.heap.size + 1 + 1) #[.string c.x, .string c.y] 62) ⟨HX1.out, HB0_1.out, HB1_1.out, HB2_1.out⟩ ?_
  rintro w2 ⟨e2, bB0_2, bB1_2, bB2_2⟩
  have HX2 := Lib.hid e2; have HB0_2 := Lib.hid bB0_2; have HB1_2 := Lib.hid bB1_2; have HB2_2 := Lib.hid bB2_2
  clear e2 bB0_2 bB1_2 bB2_2
  refine region_lin [.val (.agg #[.string (qs a.x), .string (qs a.y)]), .val (.int .i64 0), .val (.agg #[.string (qs b.x), .string (qs b.y)]), .val (.int .i64 0), .val (.agg #[.string c.x, .string c.y]), .val (.int .i64 0), .mem (fun b_ => .slice (some ⟨b_, 0, none⟩) 3 3) #[.int .i64 0, .int .i64 0, .int .i64 0] 32 Option.none, .val (.int .i64 0), .val (.int .i64 0)] (by kernel_rfl) (by kernel_rfl) (by kernel_rfl) ?_ (fun g2 w3 hx_ hm_ hne_ => ?_)
  · skip
    refine RnL.cons (fun g2 A_ W_ hs_ => ?_) ?_
    · have q3_ := (hs_.old 3 (by kernel_rfl) : A_.tmps[3]?.getD undef = .pointer (some ⟨w.heap.size, 0, none⟩))
      have cB0_0 := (HB0_2.out.drew.ext hs_.1).cell 0 rfl
      have cB0_1 := (HB0_2.out.drew.ext hs_.1).cell 1 rfl
      refine Rn.val fun K_ hK_ => ?_
      go_simp
      exact hK_.out _ (Ext.refl _)
    refine RnL.cons (fun g2 A_ W_ hs_ => ?_) ?_
    · have q43_ := hs_.val 0 rfl rfl rfl
      refine Rn.val fun K_ hK_ => ?_
      go_simp
      refine (ofp_0 ⟨qs a.x, qs a.y⟩ _ (HG.out.ext (HX2.out.drew.trans hs_.1)) HAS.out HA.out.all).mono ?_; rintro e W9_ ⟨rfl, e9_⟩; exact hK_.out _ e9_
    refine RnL.cons (fun g2 A_ W_ hs_ => ?_) ?_
    · have q4_ := (hs_.old 4 (by kernel_rfl) : A_.tmps[4]?.getD undef = .pointer (some ⟨w.heap.size + 1, 0, none⟩))
      have cB1_0 := (HB1_2.out.drew.ext hs_.1).cell 0 rfl
      have cB1_1 := (HB1_2.out.drew.ext hs_.1).cell 1 rfl
      refine Rn.val fun K_ hK_ => ?_
      go_simp
      exact hK_.out _ (Ext.refl _)
    refine RnL.cons (fun g2 A_ W_ hs_ => ?_) ?_
    · have q45_ := hs_.val 2 rfl rfl rfl
      refine Rn.val fun K_ hK_ => ?_
      go_simp
      refine (ofp_0 ⟨qs b.x, qs b.y⟩ _ (HG.out.ext (HX2.out.drew.trans hs_.1)) HBS.out HB.out.all).mono ?_; rintro e W9_ ⟨rfl, e9_⟩; exact hK_.out _ e9_
    refine RnL.cons (fun g2 A_ W_ hs_ => ?_) ?_
    · have q5_ := (hs_.old 5 (by kernel_rfl) : A_.tmps[5]?.getD undef = .pointer (some ⟨w.heap.size + 1 + 1, 0, none⟩))
      have cB2_0 := (HB2_2.out.drew.ext hs_.1).cell 0 rfl
      have cB2_1 := (HB2_2.out.drew.ext hs_.1).cell 1 rfl
      refine Rn.val fun K_ hK_ => ?_
      go_simp
      exact hK_.out _ (Ext.refl _)
    refine RnL.cons (fun g2 A_ W_ hs_ => ?_) ?_
    · have q47_ := hs_.val 4 rfl rfl rfl
      refine Rn.val fun K_ hK_ => ?_
      go_simp
      refine (ofp_0 c _ (HG.out.ext (HX2.out.drew.trans hs_.1)) HCS.out HCW.out).mono ?_; rintro e W9_ ⟨rfl, e9_⟩; exact hK_.out _ e9_
    refine RnL.cons (fun g2 A_ W_ hs_ => ?_) ?_
    · have q44_ := hs_.val 1 rfl rfl rfl
      have q46_ := hs_.val 3 rfl rfl rfl
      have q48_ := hs_.val 5 rfl rfl rfl
      refine Rn.mem fun K_ hK_ => ?_
      go_simp
      exact hK_.out
    refine RnL.cons (fun g2 A_ W_ hs_ => ?_) ?_
    · have q49_ := (hs_.mem 6 rfl rfl rfl).1
      refine Rn.val fun K_ hK_ => ?_
      go_simp
      refine (((by decide : ferr [0, 0, 0] = 0) ▸ first3_c 0 0 0 (g2 6) _ ((hs_.mem 6 rfl rfl rfl).2.2 rfl))).mono ?_; rintro e _ ⟨rfl, rfl⟩; exact hK_.out _ (Ext.refl _)
    refine RnL.cons (fun g2 A_ W_ hs_ => ?_) ?_
    · have q50_ := hs_.val 7 rfl rfl rfl
      refine Rn.val fun K_ hK_ => ?_
      go_simp
      exact hK_.out _ (Ext.refl _)
    exact RnL.nil
  simp only [fs, Kd.value, puts, Act.put, List.setIfInBounds_toArray, List.set_cons_zero, List.set_cons_succ, Nat.reduceAdd]
  have HX3 : Hid (Ext w w3) := Lib.hid (HX2.out.drew.trans hx_)
  have HB0_3 := Lib.hid (HB0_2.out.drew.ext hx_)
  have HB1_3 := Lib.hid (HB1_2.out.drew.ext hx_)
  have HB7_3 : Hid (Blk w3 (g2 6) #[.int .i64 0, .int .i64 0, .int .i64 0] 32) := Lib.hid (hm_ 6 _ _ _ _ rfl).2; have HGEB7 : Hid (w.heap.size ≤ g2 6) := Lib.hid (Nat.le_trans HX2.out.size (hm_ 6 _ _ _ _ rfl).1)
  have HNEB0B7 : Hid (w.heap.size ≠ g2 6) := Lib.hid (Nat.ne_of_lt (Nat.lt_of_lt_of_le HB0_2.out.lt (hm_ 6 _ _ _ _ rfl).1))
  have HNEB1B7 : Hid (w.heap.size + 1 ≠ g2 6) := Lib.hid (Nat.ne_of_lt (Nat.lt_of_lt_of_le HB1_2.out.lt (hm_ 6 _ _ _ _ rfl).1))
  clear hx_ hm_ hne_
  generalize g2 6 = i7 at *
  clear g2
  go_wp2_with fail
  refine wp_name (fun W => Ext w W ∧ Blk W (w.heap.size) #[.string (qs a.x), .string (qs a.y)] 62 ∧ Blk W (w.heap.size + 1) #[.string (qs b.x), .string (qs b.y)] 62) ⟨HX3.out, HB0_3.out, HB1_3.out⟩ ?_
  rintro w4 ⟨e4, bB0_4, bB1_4⟩
  have HX4 := Lib.hid e4; have HB0_4 := Lib.hid bB0_4; have HB1_4 := Lib.hid bB1_4
  clear e4 bB0_4 bB1_4
  refine region_lin [.val (.agg #[.string (qs a.x), .string (qs a.y)]), .val (.int .i64 0), .val (.agg #[.string (qs b.x), .string (qs b.y)]), .val (.int .i64 0), .mem (fun b_ => .slice (some ⟨b_, 0, none⟩) 2 2) #[.int .i64 0, .int .i64 0] 32 Option.none, .val (.int .i64 0), .val (.int .i64 0)] (by kernel_rfl) (by kernel_rfl) (by kernel_rfl) ?_ (fun g4 w5 hx_ hm_ hne_ => ?_)
  · skip
    refine RnL.cons (fun g4 A_ W_ hs_ => ?_) ?_
    · have q3_ := (hs_.old 3 (by kernel_rfl) : A_.tmps[3]?.getD undef = .pointer (some ⟨w.heap.size, 0, none⟩))
      have cB0_0 := (HB0_4.out.drew.ext hs_.1).cell 0 rfl
      have cB0_1 := (HB0_4.out.drew.ext hs_.1).cell 1 rfl
      refine Rn.val fun K_ hK_ => ?_
      go_simp
      exact hK_.out _ (Ext.refl _)
    refine RnL.cons (fun g4 A_ W_ hs_ => ?_) ?_
    · have q98_ := hs_.val 0 rfl rfl rfl
      refine Rn.val fun K_ hK_ => ?_
      go_simp
      refine (ofp_0 ⟨qs a.x, qs a.y⟩ _ (HG.out.ext (HX4.out.drew.trans hs_.1)) HAS.out HA.out.all).mono ?_; rintro e W9_ ⟨rfl, e9_⟩; exact hK_.out _ e9_
    refine RnL.cons (fun g4 A_ W_ hs_ => ?_) ?_
    · have q4_ := (hs_.old 4 (by kernel_rfl) : A_.tmps[4]?.getD undef = .pointer (some ⟨w.heap.size + 1, 0, none⟩))
      have cB1_0 := (HB1_4.out.drew.ext hs_.1).cell 0 rfl
      have cB1_1 := (HB1_4.out.drew.ext hs_.1).cell 1 rfl
      refine Rn.val fun K_ hK_ => ?_
      go_simp
      exact hK_.out _ (Ext.refl _)
    refine RnL.cons (fun g4 A_ W_ hs_ => ?_) ?_
    · have q100_ := hs_.val 2 rfl rfl rfl
      refine Rn.val fun K_ hK_ => ?_
      go_simp
      refine (ofp_0 ⟨qs b.x, qs b.y⟩ _ (HG.out.ext (HX4.out.drew.trans hs_.1)) HBS.out HB.out.all).mono ?_; rintro e W9_ ⟨rfl, e9_⟩; exact hK_.out _ e9_
    refine RnL.cons (fun g4 A_ W_ hs_ => ?_) ?_
    · have q99_ := hs_.val 1 rfl rfl rfl
      have q101_ := hs_.val 3 rfl rfl rfl
      refine Rn.mem fun K_ hK_ => ?_
      go_simp
      exact hK_.out
    refine RnL.cons (fun g4 A_ W_ hs_ => ?_) ?_
    · have q102_ := (hs_.mem 4 rfl rfl rfl).1
      refine Rn.val fun K_ hK_ => ?_
      go_simp
      refine (((by decide : ferr [0, 0] = 0) ▸ first2_c 0 0 (g4 4) _ ((hs_.mem 4 rfl rfl rfl).2.2 rfl))).mono ?_; rintro e _ ⟨rfl, rfl⟩; exact hK_.out _ (Ext.refl _)
    refine RnL.cons (fun g4 A_ W_ hs_ => ?_) ?_
    · have q103_ := hs_.val 5 rfl rfl rfl
      refine Rn.val fun K_ hK_ => ?_
      go_simp
      exact hK_.out _ (Ext.refl _)
    exact RnL.nil
  simp only [fs, Kd.value, puts, Act.put, List.setIfInBounds_toArray, List.set_cons_zero, List.set_cons_succ, Nat.reduceAdd]
  have HX5 : Hid (Ext w w5) := Lib.hid (HX4.out.drew.trans hx_)
  have HB0_5 := Lib.hid (HB0_4.out.drew.ext hx_)
  have HB1_5 := Lib.hid (HB1_4.out.drew.ext hx_)
  have HB8_5 : Hid (Blk w5 (g4 4) #[.int .i64 0, .int .i64 0] 32) := Lib.hid (hm_ 4 _ _ _ _ rfl).2; have HGEB8 : Hid (w.heap.size ≤ g4 4) := Lib.hid (Nat.le_trans HX4.out.size (hm_ 4 _ _ _ _ rfl).1)
  have HNEB0B8 : Hid (w.heap.size ≠ g4 4) := Lib.hid (Nat.ne_of_lt (Nat.lt_of_lt_of_le HB0_4.out.lt (hm_ 4 _ _ _ _ rfl).1))
  have HNEB1B8 : Hid (w.heap.size + 1 ≠ g4 4) := Lib.hid (Nat.ne_of_lt (Nat.lt_of_lt_of_le HB1_4.out.lt (hm_ 4 _ _ _ _ rfl).1))
  clear hx_ hm_ hne_
  generalize g4 4 = i8 at *
  clear g4
  have c0_0 := HB0_5.out.cell 0 rfl
  have c0_1 := HB0_5.out.cell 1 rfl
  have c1_0 := HB1_5.out.cell 0 rfl
  have c1_1 := HB1_5.out.cell 1 rfl
  go_wp2_with fail
  refine (thr_40 a b L _ (HG.out.ext HX5.out) HLE.out HAB.out HA4.out HB4.out).mono ?_; rintro e w6 ⟨rfl, e6⟩
  have HX6 : Hid (Ext w w6) := Lib.hid (HX5.out.trans e6)
  have HB0_6 := Lib.hid (Blk.ext HB0_5.out e6)
  have HB1_6 := Lib.hid (Blk.ext HB1_5.out e6)
  clear e6 c0_0 c0_1 c1_0 c1_1
  go_upto_region 18 with fail
  refine wp_name (fun W => Ext w W ∧ Blk W (w.heap.size) #[.string (qs a.x), .string (qs a.y)] 62 ∧ Blk W (w.heap.size + 1) #[.string (qs b.x), .string (qs b.y)] 62) ⟨(HX6.out.alloc _), (HB0_6.out.alloc _), (HB1_6.out.alloc _)⟩ ?_
  rintro w7 ⟨e7, bB0_7, bB1_7⟩
  have HX7 := Lib.hid e7; have HB0_7 := Lib.hid bB0_7; have HB1_7 := Lib.hid bB1_7
  clear e7 bB0_7 bB1_7
  have c0_0 := HB0_7.out.cell 0 rfl
  have c0_1 := HB0_7.out.cell 1 rfl
  have c1_0 := HB1_7.out.cell 0 rfl
  have c1_1 := HB1_7.out.cell 1 rfl
  go_wp2_with fail
  refine (vToward_err2 ⟨qs a.x, qs a.y⟩ ⟨qs b.x, qs b.y⟩ ⟨#[120]⟩ _ (HG.out.ext HX7.out) HAS.out HBS.out HP2.out (by decide) HTX.out).mono ?_; rintro e w8 ⟨rfl, e8⟩
  have HX8 : Hid (Ext w w8) := Lib.hid (HX7.out.trans e8)
  have HB0_8 := Lib.hid (Blk.ext HB0_7.out e8)
  have HB1_8 := Lib.hid (Blk.ext HB1_7.out e8)
  clear e8 c0_0 c0_1 c1_0 c1_1
  go_upto_region 20 with fail
  refine wp_name (fun W => Ext w W ∧ Blk W (w.heap.size) #[.string (qs a.x), .string (qs a.y)] 62 ∧ Blk W (w.heap.size + 1) #[.string (qs b.x), .string (qs b.y)] 62 ∧ Blk W (w8.heap.size) #[.string ⟨#[]⟩, .string ⟨#[]⟩] 62) ⟨(HX8.out.alloc _), (HB0_8.out.alloc _), (HB1_8.out.alloc _), (Blk.new' (w := _) (cs := #[.string ⟨#[]⟩, .string ⟨#[]⟩]) (t := 62) (by first | rfl | (simp only [World.size_alloc]; done) | (simp only [World.size_alloc]; omega) | simp))⟩ ?_
  rintro w9 ⟨e9, bB0_9, bB1_9, bB10_9⟩
  have HX9 := Lib.hid e9; have HB0_9 := Lib.hid bB0_9; have HB1_9 := Lib.hid bB1_9; have HB10_9 := Lib.hid bB10_9
  have HGEB10 : Hid (w.heap.size ≤ w8.heap.size) := Lib.hid (by have := HX8.out.size; first | omega | (simp only []; omega) | (simp; omega))
  clear e9 bB0_9 bB1_9 bB10_9
  go_cut [120] from 118 to 120 (fun s_ wx => s_ = .bool false ∧ w9 = wx)
  case first =>
    have cB0_0 := HB0_9.out.cell 0 rfl
    have cB0_1 := HB0_9.out.cell 1 rfl
    have cB1_0 := HB1_9.out.cell 0 rfl
    have cB1_1 := HB1_9.out.cell 1 rfl
    go_wp2_with fail
    all_goals first | (go_meet; exact ⟨rfl, rfl⟩) | (exact absurd (pe_ext (by assumption) (by assumption)) HAB.out)
  obtain ⟨rfl, rfl⟩ := hcut
  have c10_0 := HB10_9.out.cell 0 rfl
  have c10_1 := HB10_9.out.cell 1 rfl
  go_wp2
  go_ret
  exact ⟨rfl, HX9.out⟩

set_option maxRecDepth 100000 in
set_option maxHeartbeats 16000000 in
theorem points_C1 (a : P2) (c : T2) (w : World) (g : Gd w) (h0 : (qs a.x).size ≤ 40) (h1 : (qs a.y).size ≤ 40) (h4 : c.x.size ≤ 40) (h5 : c.y.size ≤ 40) (hcw : c.l.all rq = true) : Calls Tryz.prog 12 #[.agg #[.string (qs a.x), .string (qs a.y)], .agg #[.string (qs a.x), .string (qs a.y)], .agg #[.string c.x, .string c.y]] w (Ret w (.bool true)) := by
  have HCW := Lib.hid hcw
  have HG := Lib.hid g
  clear hcw g
  have t0 : decide ((40 : Int) < ((qs a.x).size : Int)) = false := decide_eq_false (by omega)
  have t1 : decide ((40 : Int) < ((qs a.y).size : Int)) = false := decide_eq_false (by omega)
  have t4 : decide ((40 : Int) < (c.x.size : Int)) = false := decide_eq_false (by omega)
  have t5 : decide ((40 : Int) < (c.y.size : Int)) = false := decide_eq_false (by omega)
  have HAS : Hid (TS2 ⟨qs a.x, qs a.y⟩) := Lib.hid ⟨Nat.le_trans h0 (by decide), Nat.le_trans h1 (by decide)⟩
  have HA4 : Hid (PB 40 a) := Lib.hid ⟨qb_of_size h0, qb_of_size h1⟩
  have HA : Hid (PB 200 a) := Lib.hid (HA4.out.mono (by decide))
  have HCS : Hid (TS2 c) := Lib.hid ⟨Nat.le_trans h4 (by decide), Nat.le_trans h5 (by decide)⟩
  have HTX : Hid (terr [⟨#[120]⟩] = 2) := Lib.hid (terr_2 (by simp [rq_x]))
  have HP2 : Hid (perr [⟨qs a.x, qs a.y⟩, ⟨qs a.x, qs a.y⟩] = 0) := Lib.hid (perr_0 (by simp only [List.all_cons, List.all_nil, HA.out.all, Bool.and_true]))
  clear h0 h1 h4 h5
  go_enter Tryz.func12, Tryz.ntmps12
  go_wp2_with fail
  refine wp_loop_rounds 4 ?_
  rw [rounds_succ]
  go_wp2_with fail
  rw [rounds_succ]
  go_wp2_with fail
  rw [rounds_succ]
  go_wp2_with fail
  rw [rounds_succ]
  go_wp2_with fail
  refine (known_c _ (HG.out.ext ((((((((Ext.refl w).alloc _).alloc _).alloc _).alloc _).alloc _).alloc _).alloc _))).mono ?_; rintro e w1 ⟨rfl, e1⟩
  have HX1 : Hid (Ext w w1) := Lib.hid (((((((((Ext.refl w).alloc _).alloc _).alloc _).alloc _).alloc _).alloc _).alloc _).trans e1)
  have HB0_1 : Hid (Blk w1 (w.heap.size) #[.string (qs a.x), .string (qs a.y)] 62) := Lib.hid (Blk.ext (((((((Blk.new' (w := _) (cs := #[.string (qs a.x), .string (qs a.y)]) (t := 62) (by first | rfl | (simp only [World.size_alloc]; done) | (simp only [World.size_alloc]; omega) | simp)).alloc _).alloc _).alloc _).alloc _).alloc _).alloc _) e1)
  have HB1_1 : Hid (Blk w1 (w.heap.size + 1) #[.string (qs a.x), .string (qs a.y)] 62) := Lib.hid (Blk.ext ((((((Blk.new' (w := _) (cs := #[.string (qs a.x), .string (qs a.y)]) (t := 62) (by first | rfl | (simp only [World.size_alloc]; done) | (simp only [World.size_alloc]; omega) | simp)).alloc _).alloc _).alloc _).alloc _).alloc _) e1)
  have HB2_1 : Hid (Blk w1 (w.heap.size + 1 + 1) #[.string c.x, .string c.y] 62) := Lib.hid (Blk.ext (((((Blk.new' (w := _) (cs := #[.string c.x, .string c.y]) (t := 62) (by first | rfl | (simp only [World.size_alloc]; done) | (simp only [World.size_alloc]; omega) | simp)).alloc _).alloc _).alloc _).alloc _) e1)
  have HGEB0 : Hid (w.heap.size ≤ w.heap.size) := Lib.hid (by first | omega | (simp only []; omega) | (simp; omega))
  have HGEB1 : Hid (w.heap.size ≤ w.heap.size + 1) := Lib.hid (by first | omega | (simp only []; omega) | (simp; omega))
  have HGEB2 : Hid (w.heap.size ≤ w.heap.size + 1 + 1) := Lib.hid (by first | omega | (simp only []; omega) | (simp; omega))
  clear e1
  go_wp2_with fail
  refine wp_name (fun W => Ext w W ∧ Blk W (w.heap.size) #[.string (qs a.x), .string (qs a.y)] 62 ∧ Blk W (w.heap.size + 1) #[.string (qs a.x), .string (qs a.y)] 62 ∧ Blk W (w.heap.size + 1 + 1) #[.string c.x, .string c.y] 62) ⟨HX1.out, HB0_1.out, HB1_1.out, HB2_1.out⟩ ?_
  rintro w2 ⟨e2, bB0_2, bB1_2, bB2_2⟩
  have HX2 := Lib.hid e2; have HB0_2 := Lib.hid bB0_2; have HB1_2 := Lib.hid bB1_2; have HB2_2 := Lib.hid bB2_2
  clear e2 bB0_2 bB1_2 bB2_2
  refine region_lin [.val (.agg #[.string (qs a.x), .string (qs a.y)]), .val (.int .i64 0), .val (.agg #[.string (qs a.x), .string (qs a.y)]), .val (.int .i64 0), .val (.agg #[.string c.x, .string c.y]), .val (.int .i64 0), .mem (fun b_ => .slice (some ⟨b_, 0, none⟩) 3 3) #[.int .i64 0, .int .i64 0, .int .i64 0] 32 Option.none, .val (.int .i64 0), .val (.int .i64 0)] (by kernel_rfl) (by kernel_rfl) (by kernel_rfl) ?_ (fun g2 w3 hx_ hm_ hne_ => ?_)
  · skip
    refine RnL.cons (fun g2 A_ W_ hs_ => ?_) ?_
    · have q3_ := (hs_.old 3 (by kernel_rfl) : A_.tmps[3]?.getD undef = .pointer (some ⟨w.heap.size, 0, none⟩))
      have cB0_0 := (HB0_2.out.drew.ext hs_.1).cell 0 rfl
      have cB0_1 := (HB0_2.out.drew.ext hs_.1).cell 1 rfl
      refine Rn.val fun K_ hK_ => ?_
      go_simp
      exact hK_.out _ (Ext.refl _)
    refine RnL.cons (fun g2 A_ W_ hs_ => ?_) ?_
    · have q43_ := hs_.val 0 rfl rfl rfl
      refine Rn.val fun K_ hK_ => ?_
      go_simp
      refine (ofp_0 ⟨qs a.x, qs a.y⟩ _ (HG.out.ext (HX2.out.drew.trans hs_.1)) HAS.out HA.out.all).mono ?_; rintro e W9_ ⟨rfl, e9_⟩; exact hK_.out _ e9_
    refine RnL.cons (fun g2 A_ W_ hs_ => ?_) ?_
    · have q4_ := (hs_.old 4 (by kernel_rfl) : A_.tmps[4]?.getD undef = .pointer (some ⟨w.heap.size + 1, 0, none⟩))
      have cB1_0 := (HB1_2.out.drew.ext hs_.1).cell 0 rfl
      have cB1_1 := (HB1_2.out.drew.ext hs_.1).cell 1 rfl
      refine Rn.val fun K_ hK_ => ?_
      go_simp
      exact hK_.out _ (Ext.refl _)
    refine RnL.cons (fun g2 A_ W_ hs_ => ?_) ?_
    · have q45_ := hs_.val 2 rfl rfl rfl
      refine Rn.val fun K_ hK_ => ?_
      go_simp
      refine (ofp_0 ⟨qs a.x, qs a.y⟩ _ (HG.out.ext (HX2.out.drew.trans hs_.1)) HAS.out HA.out.all).mono ?_; rintro e W9_ ⟨rfl, e9_⟩; exact hK_.out _ e9_
    refine RnL.cons (fun g2 A_ W_ hs_ => ?_) ?_
    · have q5_ := (hs_.old 5 (by kernel_rfl) : A_.tmps[5]?.getD undef = .pointer (some ⟨w.heap.size + 1 + 1, 0, none⟩))
      have cB2_0 := (HB2_2.out.drew.ext hs_.1).cell 0 rfl
      have cB2_1 := (HB2_2.out.drew.ext hs_.1).cell 1 rfl
      refine Rn.val fun K_ hK_ => ?_
      go_simp
      exact hK_.out _ (Ext.refl _)
    refine RnL.cons (fun g2 A_ W_ hs_ => ?_) ?_
    · have q47_ := hs_.val 4 rfl rfl rfl
      refine Rn.val fun K_ hK_ => ?_
      go_simp
      refine (ofp_0 c _ (HG.out.ext (HX2.out.drew.trans hs_.1)) HCS.out HCW.out).mono ?_; rintro e W9_ ⟨rfl, e9_⟩; exact hK_.out _ e9_
    refine RnL.cons (fun g2 A_ W_ hs_ => ?_) ?_
    · have q44_ := hs_.val 1 rfl rfl rfl
      have q46_ := hs_.val 3 rfl rfl rfl
      have q48_ := hs_.val 5 rfl rfl rfl
      refine Rn.mem fun K_ hK_ => ?_
      go_simp
      exact hK_.out
    refine RnL.cons (fun g2 A_ W_ hs_ => ?_) ?_
    · have q49_ := (hs_.mem 6 rfl rfl rfl).1
      refine Rn.val fun K_ hK_ => ?_
      go_simp
      refine (((by decide : ferr [0, 0, 0] = 0) ▸ first3_c 0 0 0 (g2 6) _ ((hs_.mem 6 rfl rfl rfl).2.2 rfl))).mono ?_; rintro e _ ⟨rfl, rfl⟩; exact hK_.out _ (Ext.refl _)
    refine RnL.cons (fun g2 A_ W_ hs_ => ?_) ?_
    · have q50_ := hs_.val 7 rfl rfl rfl
      refine Rn.val fun K_ hK_ => ?_
      go_simp
      exact hK_.out _ (Ext.refl _)
    exact RnL.nil
  simp only [fs, Kd.value, puts, Act.put, List.setIfInBounds_toArray, List.set_cons_zero, List.set_cons_succ, Nat.reduceAdd]
  have HX3 : Hid (Ext w w3) := Lib.hid (HX2.out.drew.trans hx_)
  have HB0_3 := Lib.hid (HB0_2.out.drew.ext hx_)
  have HB1_3 := Lib.hid (HB1_2.out.drew.ext hx_)
  have HB7_3 : Hid (Blk w3 (g2 6) #[.int .i64 0, .int .i64 0, .int .i64 0] 32) := Lib.hid (hm_ 6 _ _ _ _ rfl).2; have HGEB7 : Hid (w.heap.size ≤ g2 6) := Lib.hid (Nat.le_trans HX2.out.size (hm_ 6 _ _ _ _ rfl).1)
  have HNEB0B7 : Hid (w.heap.size ≠ g2 6) := Lib.hid (Nat.ne_of_lt (Nat.lt_of_lt_of_le HB0_2.out.lt (hm_ 6 _ _ _ _ rfl).1))
  have HNEB1B7 : Hid (w.heap.size + 1 ≠ g2 6) := Lib.hid (Nat.ne_of_lt (Nat.lt_of_lt_of_le HB1_2.out.lt (hm_ 6 _ _ _ _ rfl).1))
  clear hx_ hm_ hne_
  generalize g2 6 = i7 at *
  clear g2
  go_wp2_with fail
  refine wp_name (fun W => Ext w W ∧ Blk W (w.heap.size) #[.string (qs a.x), .string (qs a.y)] 62 ∧ Blk W (w.heap.size + 1) #[.string (qs a.x), .string (qs a.y)] 62) ⟨HX3.out, HB0_3.out, HB1_3.out⟩ ?_
  rintro w4 ⟨e4, bB0_4, bB1_4⟩
  have HX4 := Lib.hid e4; have HB0_4 := Lib.hid bB0_4; have HB1_4 := Lib.hid bB1_4
  clear e4 bB0_4 bB1_4
  refine region_lin [.val (.agg #[.string (qs a.x), .string (qs a.y)]), .val (.int .i64 0), .val (.agg #[.string (qs a.x), .string (qs a.y)]), .val (.int .i64 0), .mem (fun b_ => .slice (some ⟨b_, 0, none⟩) 2 2) #[.int .i64 0, .int .i64 0] 32 Option.none, .val (.int .i64 0), .val (.int .i64 0)] (by kernel_rfl) (by kernel_rfl) (by kernel_rfl) ?_ (fun g4 w5 hx_ hm_ hne_ => ?_)
  · skip
    refine RnL.cons (fun g4 A_ W_ hs_ => ?_) ?_
    · have q3_ := (hs_.old 3 (by kernel_rfl) : A_.tmps[3]?.getD undef = .pointer (some ⟨w.heap.size, 0, none⟩))
      have cB0_0 := (HB0_4.out.drew.ext hs_.1).cell 0 rfl
      have cB0_1 := (HB0_4.out.drew.ext hs_.1).cell 1 rfl
      refine Rn.val fun K_ hK_ => ?_
      go_simp
      exact hK_.out _ (Ext.refl _)
    refine RnL.cons (fun g4 A_ W_ hs_ => ?_) ?_
    · have q98_ := hs_.val 0 rfl rfl rfl
      refine Rn.val fun K_ hK_ => ?_
      go_simp
      refine (ofp_0 ⟨qs a.x, qs a.y⟩ _ (HG.out.ext (HX4.out.drew.trans hs_.1)) HAS.out HA.out.all).mono ?_; rintro e W9_ ⟨rfl, e9_⟩; exact hK_.out _ e9_
    refine RnL.cons (fun g4 A_ W_ hs_ => ?_) ?_
    · have q4_ := (hs_.old 4 (by kernel_rfl) : A_.tmps[4]?.getD undef = .pointer (some ⟨w.heap.size + 1, 0, none⟩))
      have cB1_0 := (HB1_4.out.drew.ext hs_.1).cell 0 rfl
      have cB1_1 := (HB1_4.out.drew.ext hs_.1).cell 1 rfl
      refine Rn.val fun K_ hK_ => ?_
      go_simp
      exact hK_.out _ (Ext.refl _)
    refine RnL.cons (fun g4 A_ W_ hs_ => ?_) ?_
    · have q100_ := hs_.val 2 rfl rfl rfl
      refine Rn.val fun K_ hK_ => ?_
      go_simp
      refine (ofp_0 ⟨qs a.x, qs a.y⟩ _ (HG.out.ext (HX4.out.drew.trans hs_.1)) HAS.out HA.out.all).mono ?_; rintro e W9_ ⟨rfl, e9_⟩; exact hK_.out _ e9_
    refine RnL.cons (fun g4 A_ W_ hs_ => ?_) ?_
    · have q99_ := hs_.val 1 rfl rfl rfl
      have q101_ := hs_.val 3 rfl rfl rfl
      refine Rn.mem fun K_ hK_ => ?_
      go_simp
      exact hK_.out
    refine RnL.cons (fun g4 A_ W_ hs_ => ?_) ?_
    · have q102_ := (hs_.mem 4 rfl rfl rfl).1
      refine Rn.val fun K_ hK_ => ?_
      go_simp
      refine (((by decide : ferr [0, 0] = 0) ▸ first2_c 0 0 (g4 4) _ ((hs_.mem 4 rfl rfl rfl).2.2 rfl))).mono ?_; rintro e _ ⟨rfl, rfl⟩; exact hK_.out _ (Ext.refl _)
    refine RnL.cons (fun g4 A_ W_ hs_ => ?_) ?_
    · have q103_ := hs_.val 5 rfl rfl rfl
      refine Rn.val fun K_ hK_ => ?_
      go_simp
      exact hK_.out _ (Ext.refl _)
    exact RnL.nil
  simp only [fs, Kd.value, puts, Act.put, List.setIfInBounds_toArray, List.set_cons_zero, List.set_cons_succ, Nat.reduceAdd]
  have HX5 : Hid (Ext w w5) := Lib.hid (HX4.out.drew.trans hx_)
  have HB0_5 := Lib.hid (HB0_4.out.drew.ext hx_)
  have HB1_5 := Lib.hid (HB1_4.out.drew.ext hx_)
  have HB8_5 : Hid (Blk w5 (g4 4) #[.int .i64 0, .int .i64 0] 32) := Lib.hid (hm_ 4 _ _ _ _ rfl).2; have HGEB8 : Hid (w.heap.size ≤ g4 4) := Lib.hid (Nat.le_trans HX4.out.size (hm_ 4 _ _ _ _ rfl).1)
  have HNEB0B8 : Hid (w.heap.size ≠ g4 4) := Lib.hid (Nat.ne_of_lt (Nat.lt_of_lt_of_le HB0_4.out.lt (hm_ 4 _ _ _ _ rfl).1))
  have HNEB1B8 : Hid (w.heap.size + 1 ≠ g4 4) := Lib.hid (Nat.ne_of_lt (Nat.lt_of_lt_of_le HB1_4.out.lt (hm_ 4 _ _ _ _ rfl).1))
  clear hx_ hm_ hne_
  generalize g4 4 = i8 at *
  clear g4
  have c0_0 := HB0_5.out.cell 0 rfl
  have c0_1 := HB0_5.out.cell 1 rfl
  have c1_0 := HB1_5.out.cell 0 rfl
  have c1_1 := HB1_5.out.cell 1 rfl
  go_wp2_with fail
  refine (vThrough_same a _ (HG.out.ext HX5.out) HA.out).mono ?_; rintro e w6 ⟨rfl, e6⟩
  have HX6 : Hid (Ext w w6) := Lib.hid (HX5.out.trans e6)
  have HB0_6 := Lib.hid (Blk.ext HB0_5.out e6)
  have HB1_6 := Lib.hid (Blk.ext HB1_5.out e6)
  clear e6 c0_0 c0_1 c1_0 c1_1
  go_upto_region 18 with fail
  refine wp_name (fun W => Ext w W ∧ Blk W (w.heap.size) #[.string (qs a.x), .string (qs a.y)] 62 ∧ Blk W (w.heap.size + 1) #[.string (qs a.x), .string (qs a.y)] 62 ∧ Blk W (w6.heap.size) #[.string ⟨#[]⟩, .string ⟨#[]⟩, .string ⟨#[]⟩] 73) ⟨(HX6.out.alloc _), (HB0_6.out.alloc _), (HB1_6.out.alloc _), (Blk.new' (w := _) (cs := #[.string ⟨#[]⟩, .string ⟨#[]⟩, .string ⟨#[]⟩]) (t := 73) (by first | rfl | (simp only [World.size_alloc]; done) | (simp only [World.size_alloc]; omega) | simp))⟩ ?_
  rintro w7 ⟨e7, bB0_7, bB1_7, bB9_7⟩
  have HX7 := Lib.hid e7; have HB0_7 := Lib.hid bB0_7; have HB1_7 := Lib.hid bB1_7; have HB9_7 := Lib.hid bB9_7
  have HGEB9 : Hid (w.heap.size ≤ w6.heap.size) := Lib.hid (by have := HX6.out.size; first | omega | (simp only []; omega) | (simp; omega))
  clear e7 bB0_7 bB1_7 bB9_7
  have c0_0 := HB0_7.out.cell 0 rfl
  have c0_1 := HB0_7.out.cell 1 rfl
  have c1_0 := HB1_7.out.cell 0 rfl
  have c1_1 := HB1_7.out.cell 1 rfl
  go_wp2_with fail
  refine (vToward_err2 ⟨qs a.x, qs a.y⟩ ⟨qs a.x, qs a.y⟩ ⟨#[120]⟩ _ (HG.out.ext HX7.out) HAS.out HAS.out HP2.out (by decide) HTX.out).mono ?_; rintro e w8 ⟨rfl, e8⟩
  have HX8 : Hid (Ext w w8) := Lib.hid (HX7.out.trans e8)
  have HB0_8 := Lib.hid (Blk.ext HB0_7.out e8)
  have HB1_8 := Lib.hid (Blk.ext HB1_7.out e8)
  have HB9_8 := Lib.hid (Blk.ext HB9_7.out e8)
  clear e8 c0_0 c0_1 c1_0 c1_1
  go_upto_region 20 with fail
  refine wp_name (fun W => Ext w W ∧ Blk W (w.heap.size) #[.string (qs a.x), .string (qs a.y)] 62 ∧ Blk W (w.heap.size + 1) #[.string (qs a.x), .string (qs a.y)] 62 ∧ Blk W (w6.heap.size) #[.string ⟨#[]⟩, .string ⟨#[]⟩, .string ⟨#[]⟩] 73) ⟨(HX8.out.alloc _), (HB0_8.out.alloc _), (HB1_8.out.alloc _), (HB9_8.out.alloc _)⟩ ?_
  rintro w9 ⟨e9, bB0_9, bB1_9, bB9_9⟩
  have HX9 := Lib.hid e9; have HB0_9 := Lib.hid bB0_9; have HB1_9 := Lib.hid bB1_9; have HB9_9 := Lib.hid bB9_9
  clear e9 bB0_9 bB1_9 bB9_9
  have c0_0 := HB0_9.out.cell 0 rfl
  have c0_1 := HB0_9.out.cell 1 rfl
  have c1_0 := HB1_9.out.cell 0 rfl
  have c1_1 := HB1_9.out.cell 1 rfl
  have c9_0 := HB9_9.out.cell 0 rfl
  have c9_1 := HB9_9.out.cell 1 rfl
  have c9_2 := HB9_9.out.cell 2 rfl
  go_wp2
  go_ret
  exact ⟨rfl, HX9.out⟩

theorem points_walk (a b c : T2) (w : World) (g : Gd w) : Calls Tryz.prog 12 #[tp a, tp b, tp c] w (Ret w (.bool true)) := by
  by_cases h0 : a.x.size ≤ 40
  case neg => exact points_L0 a b c w g (by omega)
  by_cases h1 : a.y.size ≤ 40
  case neg => exact points_L1 a b c w g h0 (by omega)
  by_cases h2 : b.x.size ≤ 40
  case neg => exact points_L2 a b c w g h0 h1 (by omega)
  by_cases h3 : b.y.size ≤ 40
  case neg => exact points_L3 a b c w g h0 h1 h2 (by omega)
  by_cases h4 : c.x.size ≤ 40
  case neg => exact points_L4 a b c w g h0 h1 h2 h3 (by omega)
  by_cases h5 : c.y.size ≤ 40
  case neg => exact points_L5 a b c w g h0 h1 h2 h3 h4 (by omega)
  cases ra : a.l.all rq with
  | false => exact points_A a b c w g h0 h1 h2 h3 h4 h5 (perr_2 (by simp [ra])) (perr_2 (by simp [ra])) (by rw [terr_2 ra]; simp [ferr]) (by rw [terr_2 ra]; simp [ferr])
  | true =>
    cases rb : b.l.all rq with
    | false => exact points_A a b c w g h0 h1 h2 h3 h4 h5 (perr_2 (by simp [rb])) (perr_2 (by simp [rb])) (by rw [terr_0 ra, terr_2 rb]; simp [ferr]) (by rw [terr_0 ra, terr_2 rb]; simp [ferr])
    | true =>
      obtain ⟨p, rfl, hp⟩ := right_p ra
      obtain ⟨q, rfl, hq⟩ := right_p rb
      cases rc : c.l.all rq with
      | false =>
        by_cases e : p = q
        · subst e; exact points_B1 p c w g h0 h1 h4 h5 rc
        · exact points_B0 p q c w g h0 h1 h2 h3 h4 h5 rc e
      | true =>
        by_cases e : p = q
        · subst e; exact points_C1 p c w g h0 h1 h4 h5 rc
        · exact points_C0 p q c w g h0 h1 h2 h3 h4 h5 rc e
end Go.Proofs.YtglppcmegocphaaGreatDoor
