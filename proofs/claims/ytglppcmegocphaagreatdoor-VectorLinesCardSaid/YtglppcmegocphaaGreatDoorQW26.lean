/- Part 26 of the proof: V6, V7, V7a, L1, L1b, L2, PrimP, Geo, Geo2, Geo3. -/
import Derived.Test.YtglppcmegocphaaGreatDoorQW1
import Derived.Test.YtglppcmegocphaaGreatDoorQW2
import Derived.Test.YtglppcmegocphaaGreatDoorQW3
import Derived.Test.YtglppcmegocphaaGreatDoorQW4
import Derived.Test.YtglppcmegocphaaGreatDoorQW5
import Derived.Test.YtglppcmegocphaaGreatDoorQW6
import Derived.Test.YtglppcmegocphaaGreatDoorQW7
import Derived.Test.YtglppcmegocphaaGreatDoorQW8
import Derived.Test.YtglppcmegocphaaGreatDoorQW9
import Derived.Test.YtglppcmegocphaaGreatDoorQW10
import Derived.Test.YtglppcmegocphaaGreatDoorQW11
import Derived.Test.YtglppcmegocphaaGreatDoorQW12
import Derived.Test.YtglppcmegocphaaGreatDoorQW13
import Derived.Test.YtglppcmegocphaaGreatDoorQW14
import Derived.Test.YtglppcmegocphaaGreatDoorQW15
import Derived.Test.YtglppcmegocphaaGreatDoorQW16
import Derived.Test.YtglppcmegocphaaGreatDoorQW17
import Derived.Test.YtglppcmegocphaaGreatDoorQW18
import Derived.Test.YtglppcmegocphaaGreatDoorQW19
import Derived.Test.YtglppcmegocphaaGreatDoorQW20
import Derived.Test.YtglppcmegocphaaGreatDoorQW21
import Derived.Test.YtglppcmegocphaaGreatDoorQW22
import Derived.Test.YtglppcmegocphaaGreatDoorQW23
import Derived.Test.YtglppcmegocphaaGreatDoorQW24
import Derived.Test.YtglppcmegocphaaGreatDoorQW25
namespace Go.Proofs.YtglppcmegocphaaGreatDoor
open Go Go.RowKit
theorem QB.inum {k : Nat} {q : Rat} (h : QB k q) : IB k q.num := ⟨h.num⟩
theorem QB.iden {k : Nat} {q : Rat} (h : QB k q) : IB k (q.den : Int) := ⟨by simpa using h.den⟩
theorem IB.zero : IB 1 0 := ⟨by decide⟩
theorem IB.one : IB 1 1 := ⟨by decide⟩
theorem IB.gcd {k m : Nat} {a b : Int} (ha : IB k a) (hb : IB m b) : IB (max k m) (Int.gcd a b : Int) := by
  by_cases h : b = 0
  · subst h; have := ha.mono (Nat.le_max_left k m); exact this.of_le (by simp)
  · exact (hb.mono (Nat.le_max_right k m)).of_le (by rw [Int.natAbs_natCast]; exact Nat.le_of_dvd (by omega) (Int.gcd_dvd_natAbs_right a b))
theorem IB.div {k : Nat} {a : Int} (ha : IB k a) (b : Int) : IB k (a / b) := ha.of_le (Int.natAbs_ediv_le_natAbs a b)
theorem gcd_1 (b : Int) {m : Nat} (w : World) (g : Gd w) (hb : IB m b) (hm : m ≤ 9000) : Calls Tryz.prog 71 #[.string ⟨#[49]⟩, .string (zs b)] w (Ret w (.string (zs (Int.gcd 1 b : Int)))) := by
  have := gcd_c 1 b w g IB.one hb (by decide) hm; rwa [zs_one] at this
theorem gcd_0 (b : Int) {m : Nat} (w : World) (g : Gd w) (hb : IB m b) (hm : m ≤ 9000) : Calls Tryz.prog 71 #[.string ⟨#[48]⟩, .string (zs b)] w (Ret w (.string (zs (Int.gcd 0 b : Int)))) := by
  have := gcd_c 0 b w g IB.zero hb (by decide) hm; rwa [zs_zero] at this
theorem imul_1 (b : Int) {m : Nat} (w : World) (g : Gd w) (hb : IB m b) (hm : m ≤ 9000) : Calls Tryz.prog 73 #[.string ⟨#[49]⟩, .string (zs b)] w (Ret w (.string (zs (1 * b)))) := by
  have := mul_c 1 b w g IB.one hb (by decide) hm; rwa [zs_one] at this
theorem vscale0_z (a : V3) (n : Int) {k m : Nat} (w : World) (g : Gd w) (ha : VB k a) (hn : IB m n) (hk : k ≤ 3000) (hm : m ≤ 3000) (h1 : 1 ≤ m) : Calls Tryz.prog 74 #[vv a, .string (zs n)] w (Ret w (.agg #[.string (qs (a.x * (n : Rat))), .string (qs (a.y * (n : Rat))), .string (qs (a.z * (n : Rat)))])) := by
  have := vscale0_c a (n : Rat) w g ha (QB.int hn h1) hk hm; rwa [qs_int] at this
theorem new_1 (d : Nat) (hd : d ≠ 0) {m : Nat} (w : World) (g : Gd w) (hdb : IB m (d : Int)) (hm : m ≤ 8000) :
    Calls Tryz.prog 75 #[.string ⟨#[49]⟩, .string (zs (d : Int))] w (Ret w (.tuple #[.string (qs (mkRat 1 d)), .int .i64 0])) := by
  have := new_c 1 d hd w g IB.one hdb (by decide) hm; rwa [zs_one] at this
theorem QB.mk1 {m : Nat} {d : Nat} (hd : d ≠ 0) (h : IB m (d : Int)) (hm : 1 ≤ m) : QB m (mkRat 1 d) := QB.mk' hd (Nat.one_lt_pow (by omega) (by decide)) (by simpa using h.out)
theorem gcd_ne {a b : Int} (h : b ≠ 0) : (Int.gcd a b : Int) ≠ 0 := by
  intro e; have e' : Int.gcd a b = 0 := by omega
  exact h (Int.gcd_eq_zero_iff.1 e').2
theorem den_ne (q : Rat) : (q.den : Int) ≠ 0 := by have := q.den_nz; omega

def pd0 (v : V3) : Int := (Int.gcd 1 (v.x.den : Int) : Int)
def pd1 (v : V3) : Int := 1 * ((v.x.den : Int) / pd0 v)
def pd2 (v : V3) : Int := pd1 v * ((v.y.den : Int) / (Int.gcd (pd1 v) (v.y.den : Int) : Int))
def pden (v : V3) : Int := pd2 v * ((v.z.den : Int) / (Int.gcd (pd2 v) (v.z.den : Int) : Int))
def pn1 (v : V3) : Int := (Int.gcd 0 v.x.num : Int)
def pn2 (v : V3) : Int := (Int.gcd (pn1 v) v.y.num : Int)
def pnum (v : V3) : Nat := Int.gcd (pn2 v) v.z.num
def vwhole (v : V3) : V3 := ⟨v.x * (pden v : Rat), v.y * (pden v : Rat), v.z * (pden v : Rat)⟩
def vprim (v : V3) : V3 := ⟨(vwhole v).x * mkRat 1 (pnum (vwhole v)), (vwhole v).y * mkRat 1 (pnum (vwhole v)), (vwhole v).z * mkRat 1 (pnum (vwhole v))⟩

theorem pg0 (v : V3) {m : Nat} (w : World) (g : Gd w) (hb : IB m (v.x.den : Int)) (hm : m ≤ 9000) : Calls Tryz.prog 71 #[.string ⟨#[49]⟩, .string (zs (v.x.den : Int))] w (Ret w (.string (zs (pd0 v)))) := gcd_1 _ w g hb hm
theorem pd0_ne (v : V3) : pd0 v ≠ 0 := gcd_ne (den_ne _)
theorem IB.pd0 {k : Nat} {v : V3} (h : VB k v) : IB (max 1 k) (pd0 v) := IB.one.gcd (QB.iden h.x)
theorem pm1 (v : V3) {m : Nat} (w : World) (g : Gd w) (hb : IB m ((v.x.den : Int) / pd0 v)) (hm : m ≤ 9000) : Calls Tryz.prog 73 #[.string ⟨#[49]⟩, .string (zs ((v.x.den : Int) / pd0 v))] w (Ret w (.string (zs (pd1 v)))) := imul_1 _ w g hb hm
theorem pm2 (v : V3) {k m : Nat} (w : World) (g : Gd w) (ha : IB k (pd1 v)) (hb : IB m ((v.y.den : Int) / (Int.gcd (pd1 v) (v.y.den : Int) : Int))) (hk : k ≤ 9000) (hm : m ≤ 9000) : Calls Tryz.prog 73 #[.string (zs (pd1 v)), .string (zs ((v.y.den : Int) / (Int.gcd (pd1 v) (v.y.den : Int) : Int)))] w (Ret w (.string (zs (pd2 v)))) := mul_c _ _ w g ha hb hk hm
theorem pm3 (v : V3) {k m : Nat} (w : World) (g : Gd w) (ha : IB k (pd2 v)) (hb : IB m ((v.z.den : Int) / (Int.gcd (pd2 v) (v.z.den : Int) : Int))) (hk : k ≤ 9000) (hm : m ≤ 9000) : Calls Tryz.prog 73 #[.string (zs (pd2 v)), .string (zs ((v.z.den : Int) / (Int.gcd (pd2 v) (v.z.den : Int) : Int)))] w (Ret w (.string (zs (pden v)))) := mul_c _ _ w g ha hb hk hm
theorem pg1 (v : V3) {m : Nat} (w : World) (g : Gd w) (hb : IB m v.x.num) (hm : m ≤ 9000) : Calls Tryz.prog 71 #[.string ⟨#[48]⟩, .string (zs v.x.num)] w (Ret w (.string (zs (pn1 v)))) := gcd_0 _ w g hb hm
theorem pg2 (v : V3) {k m : Nat} (w : World) (g : Gd w) (ha : IB k (pn1 v)) (hb : IB m v.y.num) (hk : k ≤ 9000) (hm : m ≤ 9000) : Calls Tryz.prog 71 #[.string (zs (pn1 v)), .string (zs v.y.num)] w (Ret w (.string (zs (pn2 v)))) := gcd_c _ _ w g ha hb hk hm
theorem pg3 (v : V3) {k m : Nat} (w : World) (g : Gd w) (ha : IB k (pn2 v)) (hb : IB m v.z.num) (hk : k ≤ 9000) (hm : m ≤ 9000) : Calls Tryz.prog 71 #[.string (zs (pn2 v)), .string (zs v.z.num)] w (Ret w (.string (zs (pnum v : Int)))) := gcd_c _ _ w g ha hb hk hm
theorem IB.pd1 {k : Nat} {v : V3} (h : VB k v) : IB (1 + k) (pd1 v) := IB.one.mul ((QB.iden h.x).div _)
theorem IB.pd2 {k : Nat} {v : V3} (h : VB k v) : IB (1 + k + k) (pd2 v) := (IB.pd1 h).mul ((QB.iden h.y).div _)
theorem IB.pden {k : Nat} {v : V3} (h : VB k v) : IB (1 + k + k + k) (pden v) := (IB.pd2 h).mul ((QB.iden h.z).div _)
theorem IB.pn1 {k : Nat} {v : V3} (h : VB k v) : IB (max 1 k) (pn1 v) := IB.zero.gcd (QB.inum h.x)
theorem IB.pn2 {k : Nat} {v : V3} (h : VB k v) : IB (max (max 1 k) k) (pn2 v) := (IB.pn1 h).gcd (QB.inum h.y)
theorem IB.pnum {k : Nat} {v : V3} (h : VB k v) : IB (max (max (max 1 k) k) k) (pnum v : Int) := (IB.pn2 h).gcd (QB.inum h.z)
theorem vscaleW (a : V3) {k : Nat} (w : World) (g : Gd w) (ha : VB k a) (hk : k ≤ 900) : Calls Tryz.prog 74 #[vv a, .string (zs (pden a))] w (Ret w (vv (vwhole a))) :=
  vscale0_z a (pden a) w g ha (IB.pden ha) (by omega) (by omega) (by omega)
theorem vscaleP (a : V3) {k m : Nat} (w : World) (g : Gd w) (ha : VB k (vwhole a)) (hq : QB m (mkRat 1 (pnum (vwhole a)))) (hk : k ≤ 3000) (hm : m ≤ 3000) : Calls Tryz.prog 74 #[vv (vwhole a), .string (qs (mkRat 1 (pnum (vwhole a))))] w (Ret w (vv (vprim a))) :=
  vscale0_c (vwhole a) (mkRat 1 (pnum (vwhole a))) w g ha hq hk hm

set_option maxRecDepth 100000 in
set_option maxHeartbeats 16000000 in
theorem vPrim_ok (a : V3) (w : World) (g : Gd w) (ha : VB 24 a) (hz : ¬ (a.x = 0 ∧ a.y = 0 ∧ a.z = 0)) (hw : VB 97 (vwhole a)) (hg0 : pnum (vwhole a) ≠ 0) (hr : VB 200 (vprim a)) : Calls Tryz.prog 15 #[.agg #[.string (qs a.x), .string (qs a.y), .string (qs a.z)]] w (Ret w (.tuple #[.agg #[.string (qs ((vprim a).x)), .string (qs ((vprim a).y)), .string (qs ((vprim a).z))], .int .i64 0])) := by
  have HA := Lib.hid ha
  have HZ := Lib.hid hz
  have HW := Lib.hid hw
  have HG0 := Lib.hid hg0
  have HR := Lib.hid hr
  have HG := Lib.hid g
  clear ha hz hw hg0 hr g
  have HQG : Hid (QB 97 (mkRat 1 (pnum (vwhole a)))) := Lib.hid (QB.mk1 HG0.out ((IB.pnum HW.out).mono (by decide)) (by decide))
  have ix0 : ∀ W, (Instr.index 108 (.agg #[.string (qs a.x), .string (qs a.y), .string (qs a.z)]) (.int .i64 0)).run Tryz.prog W = .ok (.string (qs a.x)) W := fun W => by kernel_rfl
  have ix1 : ∀ W, (Instr.index 108 (.agg #[.string (qs a.x), .string (qs a.y), .string (qs a.z)]) (.int .i64 1)).run Tryz.prog W = .ok (.string (qs a.y)) W := fun W => by kernel_rfl
  have ix2 : ∀ W, (Instr.index 108 (.agg #[.string (qs a.x), .string (qs a.y), .string (qs a.z)]) (.int .i64 2)).run Tryz.prog W = .ok (.string (qs a.z)) W := fun W => by kernel_rfl
  have ix3 : ∀ W, (Instr.index 108 (.agg #[.string (qs ((vwhole a).x)), .string (qs ((vwhole a).y)), .string (qs ((vwhole a).z))]) (.int .i64 0)).run Tryz.prog W = .ok (.string (qs ((vwhole a).x))) W := fun W => by kernel_rfl
  have ix4 : ∀ W, (Instr.index 108 (.agg #[.string (qs ((vwhole a).x)), .string (qs ((vwhole a).y)), .string (qs ((vwhole a).z))]) (.int .i64 1)).run Tryz.prog W = .ok (.string (qs ((vwhole a).y))) W := fun W => by kernel_rfl
  have ix5 : ∀ W, (Instr.index 108 (.agg #[.string (qs ((vwhole a).x)), .string (qs ((vwhole a).y)), .string (qs ((vwhole a).z))]) (.int .i64 2)).run Tryz.prog W = .ok (.string (qs ((vwhole a).z))) W := fun W => by kernel_rfl
  go_enter Tryz.func15, Tryz.ntmps15
  go_wp2_with fail
  refine (vectors1_ok a (w.heap.size + 1 + 1) _ (HG.out.ext ((((Ext.refl w).alloc _).alloc _).alloc _)) (HA.out.mono (by omega)) (Blk.new' (w := _) (cs := #[.string (qs a.x), .string (qs a.y), .string (qs a.z)]) (t := 30) (by first | rfl | (simp only [World.size_alloc]; done) | (simp only [World.size_alloc]; omega) | simp))).mono ?_; rintro e w1 ⟨rfl, e1⟩
  have HX1 : Hid (Ext w w1) := Lib.hid (((((Ext.refl w).alloc _).alloc _).alloc _).trans e1)
  have HB0_1 : Hid (Blk w1 (w.heap.size) #[.string (qs a.x), .string (qs a.y), .string (qs a.z)] 30) := Lib.hid (Blk.ext (((Blk.new' (w := _) (cs := #[.string (qs a.x), .string (qs a.y), .string (qs a.z)]) (t := 30) (by first | rfl | (simp only [World.size_alloc]; done) | (simp only [World.size_alloc]; omega) | simp)).alloc _).alloc _) e1)
  have HB1_1 : Hid (Blk w1 (w.heap.size + 1) #[.string ⟨#[]⟩, .string ⟨#[]⟩, .string ⟨#[]⟩] 30) := Lib.hid (Blk.ext ((Blk.new' (w := _) (cs := #[.string ⟨#[]⟩, .string ⟨#[]⟩, .string ⟨#[]⟩]) (t := 30) (by first | rfl | (simp only [World.size_alloc]; done) | (simp only [World.size_alloc]; omega) | simp)).alloc _) e1)
  have HB2_1 : Hid (Blk w1 (w.heap.size + 1 + 1) #[.string (qs a.x), .string (qs a.y), .string (qs a.z)] 30) := Lib.hid (Blk.ext (Blk.new' (w := _) (cs := #[.string (qs a.x), .string (qs a.y), .string (qs a.z)]) (t := 30) (by first | rfl | (simp only [World.size_alloc]; done) | (simp only [World.size_alloc]; omega) | simp)) e1)
  have HGEB0 : Hid (w.heap.size ≤ w.heap.size) := Lib.hid (by first | omega | (simp only []; omega) | (simp; omega))
  have HGEB1 : Hid (w.heap.size ≤ w.heap.size + 1) := Lib.hid (by first | omega | (simp only []; omega) | (simp; omega))
  have HGEB2 : Hid (w.heap.size ≤ w.heap.size + 1 + 1) := Lib.hid (by first | omega | (simp only []; omega) | (simp; omega))
  clear e1
  have c0_0 := HB0_1.out.cell 0 rfl
  have c0_1 := HB0_1.out.cell 1 rfl
  have c0_2 := HB0_1.out.cell 2 rfl
  go_wp2_with fail
  refine (vzero_f a _ HZ.out).mono ?_; rintro e w2 ⟨rfl, e2⟩
  have HX2 : Hid (Ext w w2) := Lib.hid (HX1.out.trans e2)
  have HB0_2 := Lib.hid (Blk.ext HB0_1.out e2)
  have HB1_2 := Lib.hid (Blk.ext HB1_1.out e2)
  clear e2 c0_0 c0_1 c0_2
  have c0_0 := HB0_2.out.cell 0 rfl
  have c0_1 := HB0_2.out.cell 1 rfl
  have c0_2 := HB0_2.out.cell 2 rfl
  go_wp2_with fail
  refine (list_c ⟨qs a.x, qs a.y, qs a.z⟩ _).mono ?_; rintro e w3 ⟨rfl, e3⟩
  have HX3 : Hid (Ext w w3) := Lib.hid (HX2.out.trans e3)
  have HB0_3 := Lib.hid (Blk.ext HB0_2.out e3)
  have HB1_3 := Lib.hid (Blk.ext HB1_2.out e3)
  clear e3 c0_0 c0_1 c0_2
  go_wp2_with fail
  refine wp_loop_rounds 4 ?_
  rw [rounds_succ]
  go_wp2_with fail
  refine (parts_c a.x _ HA.out.x (by omega)).mono ?_; rintro e w4 ⟨rfl, e4⟩
  have HX4 : Hid (Ext w w4) := Lib.hid (HX3.out.trans e4)
  have HB0_4 := Lib.hid (Blk.ext HB0_3.out e4)
  have HB1_4 := Lib.hid (Blk.ext HB1_3.out e4)
  clear e4
  go_wp2_with fail
  refine (pg0 a _ (HG.out.ext HX4.out) (QB.iden HA.out.x) (by omega)).mono ?_; rintro e w5 ⟨rfl, e5⟩
  have HX5 : Hid (Ext w w5) := Lib.hid (HX4.out.trans e5)
  have HB0_5 := Lib.hid (Blk.ext HB0_4.out e5)
  have HB1_5 := Lib.hid (Blk.ext HB1_4.out e5)
  clear e5
  go_wp2_with fail
  refine (divmod_c (a.x.den : Int) (pd0 a) _ (HG.out.ext HX5.out) (QB.iden HA.out.x) (IB.pd0 HA.out) (by omega) (by omega) (pd0_ne a)).mono ?_; rintro e w6 ⟨rfl, e6⟩
  have HX6 : Hid (Ext w w6) := Lib.hid (HX5.out.trans e6)
  have HB0_6 := Lib.hid (Blk.ext HB0_5.out e6)
  have HB1_6 := Lib.hid (Blk.ext HB1_5.out e6)
  clear e6
  go_wp2_with fail
  refine (pm1 a _ (HG.out.ext HX6.out) (IB.div (QB.iden HA.out.x) (pd0 a)) (by omega)).mono ?_; rintro e w7 ⟨rfl, e7⟩
  have HX7 : Hid (Ext w w7) := Lib.hid (HX6.out.trans e7)
  have HB0_7 := Lib.hid (Blk.ext HB0_6.out e7)
  have HB1_7 := Lib.hid (Blk.ext HB1_6.out e7)
  clear e7
  go_wp2_with fail
  rw [rounds_succ]
  go_wp2_with fail
  refine (parts_c a.y _ HA.out.y (by omega)).mono ?_; rintro e w8 ⟨rfl, e8⟩
  have HX8 : Hid (Ext w w8) := Lib.hid (HX7.out.trans e8)
  have HB0_8 := Lib.hid (Blk.ext HB0_7.out e8)
  have HB1_8 := Lib.hid (Blk.ext HB1_7.out e8)
  clear e8
  go_wp2_with fail
  refine (gcd_c (pd1 a) (a.y.den : Int) _ (HG.out.ext HX8.out) (IB.pd1 HA.out) (QB.iden HA.out.y) (by omega) (by omega)).mono ?_; rintro e w9 ⟨rfl, e9⟩
  have HX9 : Hid (Ext w w9) := Lib.hid (HX8.out.trans e9)
  have HB0_9 := Lib.hid (Blk.ext HB0_8.out e9)
  have HB1_9 := Lib.hid (Blk.ext HB1_8.out e9)
  clear e9
  go_wp2_with fail
  refine (divmod_c (a.y.den : Int) (Int.gcd (pd1 a) (a.y.den : Int) : Int) _ (HG.out.ext HX9.out) (QB.iden HA.out.y) (IB.gcd (IB.pd1 HA.out) (QB.iden HA.out.y)) (by omega) (by omega) (gcd_ne (den_ne _))).mono ?_; rintro e w10 ⟨rfl, e10⟩
  have HX10 : Hid (Ext w w10) := Lib.hid (HX9.out.trans e10)
  have HB0_10 := Lib.hid (Blk.ext HB0_9.out e10)
  have HB1_10 := Lib.hid (Blk.ext HB1_9.out e10)
  clear e10
  go_wp2_with fail
  refine (pm2 a _ (HG.out.ext HX10.out) (IB.pd1 HA.out) (IB.div (QB.iden HA.out.y) (Int.gcd (pd1 a) (a.y.den : Int) : Int)) (by omega) (by omega)).mono ?_; rintro e w11 ⟨rfl, e11⟩
  have HX11 : Hid (Ext w w11) := Lib.hid (HX10.out.trans e11)
  have HB0_11 := Lib.hid (Blk.ext HB0_10.out e11)
  have HB1_11 := Lib.hid (Blk.ext HB1_10.out e11)
  clear e11
  go_wp2_with fail
  rw [rounds_succ]
  go_wp2_with fail
  refine (parts_c a.z _ HA.out.z (by omega)).mono ?_; rintro e w12 ⟨rfl, e12⟩
  have HX12 : Hid (Ext w w12) := Lib.hid (HX11.out.trans e12)
  have HB0_12 := Lib.hid (Blk.ext HB0_11.out e12)
  have HB1_12 := Lib.hid (Blk.ext HB1_11.out e12)
  clear e12
  go_wp2_with fail
  refine (gcd_c (pd2 a) (a.z.den : Int) _ (HG.out.ext HX12.out) (IB.pd2 HA.out) (QB.iden HA.out.z) (by omega) (by omega)).mono ?_; rintro e w13 ⟨rfl, e13⟩
  have HX13 : Hid (Ext w w13) := Lib.hid (HX12.out.trans e13)
  have HB0_13 := Lib.hid (Blk.ext HB0_12.out e13)
  have HB1_13 := Lib.hid (Blk.ext HB1_12.out e13)
  clear e13
  go_wp2_with fail
  refine (divmod_c (a.z.den : Int) (Int.gcd (pd2 a) (a.z.den : Int) : Int) _ (HG.out.ext HX13.out) (QB.iden HA.out.z) (IB.gcd (IB.pd2 HA.out) (QB.iden HA.out.z)) (by omega) (by omega) (gcd_ne (den_ne _))).mono ?_; rintro e w14 ⟨rfl, e14⟩
  have HX14 : Hid (Ext w w14) := Lib.hid (HX13.out.trans e14)
  have HB0_14 := Lib.hid (Blk.ext HB0_13.out e14)
  have HB1_14 := Lib.hid (Blk.ext HB1_13.out e14)
  clear e14
  go_wp2_with fail
  refine (pm3 a _ (HG.out.ext HX14.out) (IB.pd2 HA.out) (IB.div (QB.iden HA.out.z) (Int.gcd (pd2 a) (a.z.den : Int) : Int)) (by omega) (by omega)).mono ?_; rintro e w15 ⟨rfl, e15⟩
  have HX15 : Hid (Ext w w15) := Lib.hid (HX14.out.trans e15)
  have HB0_15 := Lib.hid (Blk.ext HB0_14.out e15)
  have HB1_15 := Lib.hid (Blk.ext HB1_14.out e15)
  clear e15
  go_wp2_with fail
  rw [rounds_succ]
  have c0_0 := HB0_15.out.cell 0 rfl
  have c0_1 := HB0_15.out.cell 1 rfl
  have c0_2 := HB0_15.out.cell 2 rfl
  go_wp2_with fail
  refine (vscaleW a _ (HG.out.ext HX15.out) HA.out (by omega)).mono ?_; rintro e w16 ⟨rfl, e16⟩
  have HX16 : Hid (Ext w w16) := Lib.hid (HX15.out.trans e16)
  have HB1_16 := Lib.hid (Blk.ext HB1_15.out e16)
  clear e16 c0_0 c0_1 c0_2
  go_wp2_with fail
  refine wp_loop_rounds 4 ?_
  rw [rounds_succ]
  go_wp2_with fail
  refine (parts_c ((vwhole a).x) _ HW.out.x (by omega)).mono ?_; rintro e w17 ⟨rfl, e17⟩
  have HX17 : Hid (Ext w w17) := Lib.hid ((HX16.out.alloc _).trans e17)
  have HB1_17 : Hid (Blk w17 (w.heap.size + 1) #[.string ⟨#[]⟩, .string ⟨#[]⟩, .string ⟨#[]⟩] 30) := Lib.hid (Blk.ext (HB1_16.out.alloc _) e17)
  have HB3_17 : Hid (Blk w17 (w16.heap.size) #[.string (qs ((vwhole a).x)), .string (qs ((vwhole a).y)), .string (qs ((vwhole a).z))] 108) := Lib.hid (Blk.ext (Blk.new' (w := _) (cs := #[.string (qs ((vwhole a).x)), .string (qs ((vwhole a).y)), .string (qs ((vwhole a).z))]) (t := 108) (by first | rfl | (simp only [World.size_alloc]; done) | (simp only [World.size_alloc]; omega) | simp)) e17)
  have HGEB3 : Hid (w.heap.size ≤ w16.heap.size) := Lib.hid (by have := HX16.out.size; first | omega | (simp only []; omega) | (simp; omega))
  clear e17
  go_wp2_with fail
  refine (pg1 (vwhole a) _ (HG.out.ext HX17.out) (QB.inum HW.out.x) (by omega)).mono ?_; rintro e w18 ⟨rfl, e18⟩
  have HX18 : Hid (Ext w w18) := Lib.hid (HX17.out.trans e18)
  have HB1_18 := Lib.hid (Blk.ext HB1_17.out e18)
  have HB3_18 : Hid (Blk w18 (w16.heap.size) #[.string (qs ((vwhole a).x)), .string (qs ((vwhole a).y)), .string (qs ((vwhole a).z))] 108) := Lib.hid (Blk.ext HB3_17.out e18)
  clear e18
  go_wp2_with fail
  rw [rounds_succ]
  go_wp2_with fail
  refine (parts_c ((vwhole a).y) _ HW.out.y (by omega)).mono ?_; rintro e w19 ⟨rfl, e19⟩
  have HX19 : Hid (Ext w w19) := Lib.hid (HX18.out.trans e19)
  have HB1_19 := Lib.hid (Blk.ext HB1_18.out e19)
  have HB3_19 : Hid (Blk w19 (w16.heap.size) #[.string (qs ((vwhole a).x)), .string (qs ((vwhole a).y)), .string (qs ((vwhole a).z))] 108) := Lib.hid (Blk.ext HB3_18.out e19)
  clear e19
  go_wp2_with fail
  refine (pg2 (vwhole a) _ (HG.out.ext HX19.out) (IB.pn1 HW.out) (QB.inum HW.out.y) (by omega) (by omega)).mono ?_; rintro e w20 ⟨rfl, e20⟩
  have HX20 : Hid (Ext w w20) := Lib.hid (HX19.out.trans e20)
  have HB1_20 := Lib.hid (Blk.ext HB1_19.out e20)
  have HB3_20 : Hid (Blk w20 (w16.heap.size) #[.string (qs ((vwhole a).x)), .string (qs ((vwhole a).y)), .string (qs ((vwhole a).z))] 108) := Lib.hid (Blk.ext HB3_19.out e20)
  clear e20
  go_wp2_with fail
  rw [rounds_succ]
  go_wp2_with fail
  refine (parts_c ((vwhole a).z) _ HW.out.z (by omega)).mono ?_; rintro e w21 ⟨rfl, e21⟩
  have HX21 : Hid (Ext w w21) := Lib.hid (HX20.out.trans e21)
  have HB1_21 := Lib.hid (Blk.ext HB1_20.out e21)
  have HB3_21 : Hid (Blk w21 (w16.heap.size) #[.string (qs ((vwhole a).x)), .string (qs ((vwhole a).y)), .string (qs ((vwhole a).z))] 108) := Lib.hid (Blk.ext HB3_20.out e21)
  clear e21
  go_wp2_with fail
  refine (pg3 (vwhole a) _ (HG.out.ext HX21.out) (IB.pn2 HW.out) (QB.inum HW.out.z) (by omega) (by omega)).mono ?_; rintro e w22 ⟨rfl, e22⟩
  have HX22 : Hid (Ext w w22) := Lib.hid (HX21.out.trans e22)
  have HB1_22 := Lib.hid (Blk.ext HB1_21.out e22)
  have HB3_22 : Hid (Blk w22 (w16.heap.size) #[.string (qs ((vwhole a).x)), .string (qs ((vwhole a).y)), .string (qs ((vwhole a).z))] 108) := Lib.hid (Blk.ext HB3_21.out e22)
  clear e22
  go_wp2_with fail
  rw [rounds_succ]
  go_wp2_with fail
  refine (new_1 (pnum (vwhole a)) HG0.out _ (HG.out.ext HX22.out) (IB.pnum HW.out) (by omega)).mono ?_; rintro e w23 ⟨rfl, e23⟩
  have HX23 : Hid (Ext w w23) := Lib.hid (HX22.out.trans e23)
  have HB1_23 := Lib.hid (Blk.ext HB1_22.out e23)
  have HB3_23 : Hid (Blk w23 (w16.heap.size) #[.string (qs ((vwhole a).x)), .string (qs ((vwhole a).y)), .string (qs ((vwhole a).z))] 108) := Lib.hid (Blk.ext HB3_22.out e23)
  clear e23
  have c3_0 := HB3_23.out.cell 0 rfl
  have c3_1 := HB3_23.out.cell 1 rfl
  have c3_2 := HB3_23.out.cell 2 rfl
  go_wp2_with fail
  refine (vector_c ⟨qs ((vwhole a).x), qs ((vwhole a).y), qs ((vwhole a).z)⟩ _).mono ?_; rintro e w24 ⟨rfl, e24⟩
  have HX24 : Hid (Ext w w24) := Lib.hid (HX23.out.trans e24)
  have HB1_24 := Lib.hid (Blk.ext HB1_23.out e24)
  clear e24 c3_0 c3_1 c3_2
  go_wp2_with fail
  refine (vscaleP a _ (HG.out.ext HX24.out) HW.out HQG.out (by omega) (by omega)).mono ?_; rintro e w25 ⟨rfl, e25⟩
  have HX25 : Hid (Ext w w25) := Lib.hid (HX24.out.trans e25)
  have HB1_25 := Lib.hid (Blk.ext HB1_24.out e25)
  clear e25
  go_wp2_with fail
  refine (result_3 (vprim a).x (vprim a).y (vprim a).z _ HR.out.x HR.out.y HR.out.z).mono ?_; rintro e w26 ⟨rfl, e26⟩
  have HX26 : Hid (Ext w w26) := Lib.hid (HX25.out.trans e26)
  have HB1_26 := Lib.hid (Blk.ext HB1_25.out e26)
  clear e26
  have c1_0 := HB1_26.out.cell 0 rfl
  have f1_0 := HB1_26.out.free 0
  have c1_1 := HB1_26.out.cell 1 rfl
  have f1_1 := HB1_26.out.free 1
  have c1_2 := HB1_26.out.cell 2 rfl
  have f1_2 := HB1_26.out.free 2
  go_wp2_with fail
  refine wp_name (fun W => Ext w W ∧ Blk W (w.heap.size + 1) #[.string (qs ((vprim a).x)), .string (qs ((vprim a).y)), .string (qs ((vprim a).z))] 30) ⟨(((HX26.out.setCell (by have := HGEB1.out; first | omega | (simp only []; omega) | (simp; omega)) _).setCell (by have := HGEB1.out; first | omega | (simp only []; omega) | (simp; omega)) _).setCell (by have := HGEB1.out; first | omega | (simp only []; omega) | (simp; omega)) _), (((HB1_26.out.set 0 (.string (qs ((vprim a).x)))).set 1 (.string (qs ((vprim a).y)))).set 2 (.string (qs ((vprim a).z))))⟩ ?_
  rintro w27 ⟨e27, bB1_27⟩
  have HX27 := Lib.hid e27; have HB1_27 := Lib.hid bB1_27
  clear e27 bB1_27 c1_0 f1_0 c1_1 f1_1 c1_2 f1_2
  have gB1_0 := HB1_27.out.cell 0 rfl
  have gB1_1 := HB1_27.out.cell 1 rfl
  have gB1_2 := HB1_27.out.cell 2 rfl
  refine bodyPost_ret (v := .tuple #[.agg #[.string (qs ((vprim a).x)), .string (qs ((vprim a).y)), .string (qs ((vprim a).z))], .int .i64 0]) (by simp [results, Tryz.results15, go_sem, gB1_0, gB1_1, gB1_2]) rfl ⟨rfl, HX27.out⟩

end Go.Proofs.YtglppcmegocphaaGreatDoor

namespace Go.Proofs.YtglppcmegocphaaGreatDoor
open Go Go.RowKit
theorem res_1 (x z : Rat) (w : World) (h0 : QB 200 x) (h2 : QB 200 z) : Calls Tryz.prog 76 #[.agg #[.string (qs x), .string ⟨#[48]⟩, .string (qs z)]] w (Ret w (.tuple #[.agg #[.string (qs x), .string ⟨#[48]⟩, .string (qs z)], .int .i64 0])) := by
  have := result_3 x 0 z w h0 ((⟨by decide, by decide⟩ : QB 1 0).mono (by decide)) h2; rwa [qs_zero] at this
end Go.Proofs.YtglppcmegocphaaGreatDoor

namespace Go.Proofs.YtglppcmegocphaaGreatDoor
open Go Go.RowKit
set_option maxRecDepth 100000 in
set_option maxHeartbeats 16000000 in
theorem vCommon_1 (p q : Pl) (w : World) (g : Gd w) (hp : VB 200 p.n) (hpc : QB 200 p.c) (hq : VB 200 q.n) (hqc : QB 200 q.c) (hz : ¬ (p.n.x = 0 ∧ p.n.y = 0 ∧ p.n.z = 0)) (hy : ¬ (q.n.x = 0 ∧ q.n.y = 0 ∧ q.n.z = 0)) (hr : VB 200 ⟨p.n.y * q.n.z - p.n.z * q.n.y, p.n.z * q.n.x - p.n.x * q.n.z, p.n.x * q.n.y - p.n.y * q.n.x⟩) (hri : QB 200 ((p.c * q.n.x - p.n.x * q.c) / (p.n.z * q.n.x - p.n.x * q.n.z))) (hrk : QB 200 ((p.n.z * q.c - p.c * q.n.z) / (p.n.z * q.n.x - p.n.x * q.n.z))) (h0 : p.n.y * q.n.z - p.n.z * q.n.y = 0) (h1 : p.n.z * q.n.x - p.n.x * q.n.z ≠ 0) : Calls Tryz.prog 25 #[.agg #[.string (qs p.n.x), .string (qs p.n.y), .string (qs p.n.z), .string (qs p.c)], .agg #[.string (qs q.n.x), .string (qs q.n.y), .string (qs q.n.z), .string (qs q.c)]] w (Ret w (.tuple #[.agg #[.string (qs ((p.n.z * q.c - p.c * q.n.z) / (p.n.z * q.n.x - p.n.x * q.n.z))), .string ⟨#[48]⟩, .string (qs ((p.c * q.n.x - p.n.x * q.c) / (p.n.z * q.n.x - p.n.x * q.n.z)))], .agg #[.string (qs (p.n.y * q.n.z - p.n.z * q.n.y)), .string (qs (p.n.z * q.n.x - p.n.x * q.n.z)), .string (qs (p.n.x * q.n.y - p.n.y * q.n.x))], .int .i64 0])) := by
  have HP := Lib.hid hp
  have HPC := Lib.hid hpc
  have HQ := Lib.hid hq
  have HQC := Lib.hid hqc
  have HZ := Lib.hid hz
  have HY := Lib.hid hy
  have HG := Lib.hid g
  have HR := Lib.hid hr
  have HRI := Lib.hid hri
  have HRK := Lib.hid hrk
  clear hp hpc hq hqc hz hy g hr hri hrk
  have h0_t := qs_is0 h0
  have h1_t := qs_not0 h1
  have H1 := Lib.hid h1
  clear h0 h1
  have ix0 : ∀ W, (Instr.index 122 (.agg #[.string (qs p.n.x), .string (qs p.n.y), .string (qs p.n.z), .string (qs p.c), .string (qs q.n.x), .string (qs q.n.y), .string (qs q.n.z), .string (qs q.c)]) (.int .i64 0)).run Tryz.prog W = .ok (.agg #[.string (qs p.n.x), .string (qs p.n.y), .string (qs p.n.z), .string (qs p.c)]) W := fun W => by kernel_rfl
  have ix1 : ∀ W, (Instr.index 122 (.agg #[.string (qs p.n.x), .string (qs p.n.y), .string (qs p.n.z), .string (qs p.c), .string (qs q.n.x), .string (qs q.n.y), .string (qs q.n.z), .string (qs q.c)]) (.int .i64 1)).run Tryz.prog W = .ok (.agg #[.string (qs q.n.x), .string (qs q.n.y), .string (qs q.n.z), .string (qs q.c)]) W := fun W => by kernel_rfl
  go_enter Tryz.func25, Tryz.ntmps25
  go_wp2_with fail
  refine wp_loop_rounds 3 ?_
  rw [rounds_succ]
  go_wp2_with fail
  refine (vPlane_ok p _ (HG.out.ext ((((((Ext.refl w).alloc _).alloc _).alloc _).alloc _).alloc _)) HP.out HPC.out HZ.out).mono ?_; rintro e w1 ⟨rfl, e1⟩
  have HX1 : Hid (Ext w w1) := Lib.hid (((((((Ext.refl w).alloc _).alloc _).alloc _).alloc _).alloc _).trans e1)
  have HB0_1 : Hid (Blk w1 (w.heap.size) #[.string (qs p.n.x), .string (qs p.n.y), .string (qs p.n.z), .string (qs p.c)] 48) := Lib.hid (Blk.ext (((((Blk.new' (w := _) (cs := #[.string (qs p.n.x), .string (qs p.n.y), .string (qs p.n.z), .string (qs p.c)]) (t := 48) (by first | rfl | (simp only [World.size_alloc]; done) | (simp only [World.size_alloc]; omega) | simp)).alloc _).alloc _).alloc _).alloc _) e1)
  have HB1_1 : Hid (Blk w1 (w.heap.size + 1) #[.string (qs q.n.x), .string (qs q.n.y), .string (qs q.n.z), .string (qs q.c)] 48) := Lib.hid (Blk.ext ((((Blk.new' (w := _) (cs := #[.string (qs q.n.x), .string (qs q.n.y), .string (qs q.n.z), .string (qs q.c)]) (t := 48) (by first | rfl | (simp only [World.size_alloc]; done) | (simp only [World.size_alloc]; omega) | simp)).alloc _).alloc _).alloc _) e1)
  have HB2_1 : Hid (Blk w1 (w.heap.size + 1 + 1) #[.string ⟨#[]⟩, .string ⟨#[]⟩, .string ⟨#[]⟩] 30) := Lib.hid (Blk.ext (((Blk.new' (w := _) (cs := #[.string ⟨#[]⟩, .string ⟨#[]⟩, .string ⟨#[]⟩]) (t := 30) (by first | rfl | (simp only [World.size_alloc]; done) | (simp only [World.size_alloc]; omega) | simp)).alloc _).alloc _) e1)
  have HB3_1 : Hid (Blk w1 (w.heap.size + 1 + 1 + 1) #[.string ⟨#[]⟩, .string ⟨#[]⟩, .string ⟨#[]⟩] 30) := Lib.hid (Blk.ext ((Blk.new' (w := _) (cs := #[.string ⟨#[]⟩, .string ⟨#[]⟩, .string ⟨#[]⟩]) (t := 30) (by first | rfl | (simp only [World.size_alloc]; done) | (simp only [World.size_alloc]; omega) | simp)).alloc _) e1)
  have HGEB0 : Hid (w.heap.size ≤ w.heap.size) := Lib.hid (by first | omega | (simp only []; omega) | (simp; omega))
  have HGEB1 : Hid (w.heap.size ≤ w.heap.size + 1) := Lib.hid (by first | omega | (simp only []; omega) | (simp; omega))
  have HGEB2 : Hid (w.heap.size ≤ w.heap.size + 1 + 1) := Lib.hid (by first | omega | (simp only []; omega) | (simp; omega))
  have HGEB3 : Hid (w.heap.size ≤ w.heap.size + 1 + 1 + 1) := Lib.hid (by first | omega | (simp only []; omega) | (simp; omega))
  clear e1
  go_wp2_with fail
  rw [rounds_succ]
  go_wp2_with fail
  refine (vPlane_ok q _ (HG.out.ext (HX1.out.alloc _)) HQ.out HQC.out HY.out).mono ?_; rintro e w2 ⟨rfl, e2⟩
  have HX2 : Hid (Ext w w2) := Lib.hid ((HX1.out.alloc _).trans e2)
  have HB0_2 : Hid (Blk w2 (w.heap.size) #[.string (qs p.n.x), .string (qs p.n.y), .string (qs p.n.z), .string (qs p.c)] 48) := Lib.hid (Blk.ext (HB0_1.out.alloc _) e2)
  have HB1_2 : Hid (Blk w2 (w.heap.size + 1) #[.string (qs q.n.x), .string (qs q.n.y), .string (qs q.n.z), .string (qs q.c)] 48) := Lib.hid (Blk.ext (HB1_1.out.alloc _) e2)
  have HB2_2 : Hid (Blk w2 (w.heap.size + 1 + 1) #[.string ⟨#[]⟩, .string ⟨#[]⟩, .string ⟨#[]⟩] 30) := Lib.hid (Blk.ext (HB2_1.out.alloc _) e2)
  have HB3_2 : Hid (Blk w2 (w.heap.size + 1 + 1 + 1) #[.string ⟨#[]⟩, .string ⟨#[]⟩, .string ⟨#[]⟩] 30) := Lib.hid (Blk.ext (HB3_1.out.alloc _) e2)
  clear e2
  go_wp2_with fail
  rw [rounds_succ]
  have c0_0 := HB0_2.out.cell 0 rfl
  have c0_1 := HB0_2.out.cell 1 rfl
  have c0_2 := HB0_2.out.cell 2 rfl
  have c1_0 := HB1_2.out.cell 0 rfl
  have c1_1 := HB1_2.out.cell 1 rfl
  have c1_2 := HB1_2.out.cell 2 rfl
  go_wp2_with fail
  refine (vcross0_c p.n q.n _ (HG.out.ext HX2.out) HP.out HQ.out (by omega) (by omega)).mono ?_; rintro e w3 ⟨rfl, e3⟩
  have HX3 : Hid (Ext w w3) := Lib.hid (HX2.out.trans e3)
  have HB0_3 := Lib.hid (Blk.ext HB0_2.out e3)
  have HB1_3 := Lib.hid (Blk.ext HB1_2.out e3)
  have HB2_3 := Lib.hid (Blk.ext HB2_2.out e3)
  have HB3_3 := Lib.hid (Blk.ext HB3_2.out e3)
  clear e3 c0_0 c0_1 c0_2 c1_0 c1_1 c1_2
  go_wp2_with fail
  refine ((list_e ⟨qs (p.n.y * q.n.z - p.n.z * q.n.y), qs (p.n.z * q.n.x - p.n.x * q.n.z), qs (p.n.x * q.n.y - p.n.y * q.n.x)⟩ _).mono (fun _ _ h => (⟨h.1, h.2 ▸ ((Ext.refl _).alloc _).alloc _⟩ : Ret _ _ _ _))).mono ?_; rintro e w4 ⟨rfl, e4⟩
  have HX4 : Hid (Ext w w4) := Lib.hid (HX3.out.trans e4)
  have HB0_4 := Lib.hid (Blk.ext HB0_3.out e4)
  have HB1_4 := Lib.hid (Blk.ext HB1_3.out e4)
  have HB2_4 := Lib.hid (Blk.ext HB2_3.out e4)
  have HB3_4 := Lib.hid (Blk.ext HB3_3.out e4)
  clear e4
  go_wp2_with fail
  refine wp_loop_rounds 3 ?_
  rw [rounds_succ]
  go_wp2_with fail
  rw [rounds_succ]
  go_wp2_with fail
  refine wp_name (fun W => Ext w W ∧ Blk W (w.heap.size) #[.string (qs p.n.x), .string (qs p.n.y), .string (qs p.n.z), .string (qs p.c)] 48 ∧ Blk W (w.heap.size + 1) #[.string (qs q.n.x), .string (qs q.n.y), .string (qs q.n.z), .string (qs q.c)] 48 ∧ Blk W (w.heap.size + 1 + 1) #[.string ⟨#[]⟩, .string ⟨#[]⟩, .string ⟨#[]⟩] 30 ∧ Blk W (w.heap.size + 1 + 1 + 1) #[.string ⟨#[]⟩, .string ⟨#[]⟩, .string ⟨#[]⟩] 30 ∧ Blk W (w4.heap.size) #[.string (qs (p.n.y * q.n.z - p.n.z * q.n.y)), .string (qs (p.n.z * q.n.x - p.n.x * q.n.z)), .string (qs (p.n.x * q.n.y - p.n.y * q.n.x))] 108) ⟨(HX4.out.alloc _), (HB0_4.out.alloc _), (HB1_4.out.alloc _), (HB2_4.out.alloc _), (HB3_4.out.alloc _), (Blk.new' (w := _) (cs := #[.string (qs (p.n.y * q.n.z - p.n.z * q.n.y)), .string (qs (p.n.z * q.n.x - p.n.x * q.n.z)), .string (qs (p.n.x * q.n.y - p.n.y * q.n.x))]) (t := 108) (by first | rfl | (simp only [World.size_alloc]; done) | (simp only [World.size_alloc]; omega) | simp))⟩ ?_
  rintro w5 ⟨e5, bB0_5, bB1_5, bB2_5, bB3_5, bB6_5⟩
  have HX5 := Lib.hid e5; have HB0_5 := Lib.hid bB0_5; have HB1_5 := Lib.hid bB1_5; have HB2_5 := Lib.hid bB2_5; have HB3_5 := Lib.hid bB3_5; have HB6_5 := Lib.hid bB6_5
  have HGEB6 : Hid (w.heap.size ≤ w4.heap.size) := Lib.hid (by have := HX4.out.size; first | omega | (simp only []; omega) | (simp; omega))
  clear e5 bB0_5 bB1_5 bB2_5 bB3_5 bB6_5
  have hS5 : w5.cell? ⟨w.heap.size, 0, none⟩ = some (.string (qs p.n.x)) ∧ w5.cell? ⟨w.heap.size, 1, none⟩ = some (.string (qs p.n.y)) ∧ w5.cell? ⟨w.heap.size, 2, none⟩ = some (.string (qs p.n.z)) ∧ w5.cell? ⟨w.heap.size + 1, 0, none⟩ = some (.string (qs q.n.x)) ∧ w5.cell? ⟨w.heap.size + 1, 1, none⟩ = some (.string (qs q.n.y)) ∧ w5.cell? ⟨w.heap.size + 1, 2, none⟩ = some (.string (qs q.n.z)) := ⟨HB0_5.out.cell 0 rfl, HB0_5.out.cell 1 rfl, HB0_5.out.cell 2 rfl, HB1_5.out.cell 0 rfl, HB1_5.out.cell 1 rfl, HB1_5.out.cell 2 rfl⟩
  have HS5 := Lib.hid hS5; clear hS5
  go_cut [14, 15] from 57 to 62 (fun p14 p15 wx => ∃ i7 i8 : Nat, p14 = .pointer (some ⟨i7, 0, none⟩) ∧ p15 = .pointer (some ⟨i8, 0, none⟩) ∧ w5.heap.size ≤ i7 ∧ w5.heap.size ≤ i8 ∧ i7 ≠ i8 ∧ Ext w5 wx ∧ Blk wx i7 #[.string (qs p.n.x), .string (qs p.n.y), .string (qs p.n.z)] 108 ∧ Blk wx i8 #[.string (qs q.n.x), .string (qs q.n.y), .string (qs q.n.z)] 108)
  case first =>
    go_region_held3 (fun w' => w'.cell? ⟨w.heap.size, 0, none⟩ = some (.string (qs p.n.x)) ∧ w'.cell? ⟨w.heap.size, 1, none⟩ = some (.string (qs p.n.y)) ∧ w'.cell? ⟨w.heap.size, 2, none⟩ = some (.string (qs p.n.z)) ∧ w'.cell? ⟨w.heap.size + 1, 0, none⟩ = some (.string (qs q.n.x)) ∧ w'.cell? ⟨w.heap.size + 1, 1, none⟩ = some (.string (qs q.n.y)) ∧ w'.cell? ⟨w.heap.size + 1, 2, none⟩ = some (.string (qs q.n.z)))
      ((exact keepsH6 (by repeat (first | assumption | exact Ext.refl _ | apply Ext.drew | apply Ext.alloc | (refine Ext.setCell ?_ (by first | omega | (simp only []; omega) | (simp; omega)) _) | (refine Ext.trans ?_ (by assumption)))) HS5.out)) (first
      | (go_at_call 69; ((with_reducible refine (list_e ⟨qs p.n.x, qs p.n.y, qs p.n.z⟩ _).mono ?_); rintro e _ ⟨rfl, rfl⟩))
      | (go_at_call 69; ((with_reducible refine (list_e ⟨qs q.n.x, qs q.n.y, qs q.n.z⟩ _).mono ?_); rintro e _ ⟨rfl, rfl⟩)))
    all_goals (go_wp2_with fail; go_meet)
    all_goals (refine ⟨_, _, rfl, rfl, by first | omega | (simp; omega), by first | omega | (simp; omega), by first | omega | (simp; omega), (by repeat (first | assumption | exact Ext.refl _ | apply Ext.drew | apply Ext.alloc | (refine Ext.setCell ?_ (by first | omega | (simp only []; omega) | (simp; omega)) _) | (refine Ext.trans ?_ (by assumption)))), ?_, ?_⟩)
    all_goals (repeat (first | assumption | (refine Blk.new' ?_; first | rfl | (simp only [World.size_alloc]; done) | (simp only [World.size_alloc]; omega)) | apply Blk.alloc | apply Blk.drew | (exact Blk.fill3 (by assumption)) | (refine Blk.ext ?_ (by assumption))))
  obtain ⟨i7, i8, rfl, rfl, hgeB7, hgeB8, hne10, e6, bB7, bB8⟩ := hcut
  rename World => w6
  have HX6 : Hid (Ext w w6) := Lib.hid (HX5.out.trans e6)
  have HB0_6 := Lib.hid (HB0_5.out.ext e6)
  have HB1_6 := Lib.hid (HB1_5.out.ext e6)
  have HB2_6 := Lib.hid (HB2_5.out.ext e6)
  have HB3_6 := Lib.hid (HB3_5.out.ext e6)
  have HB6_6 := Lib.hid (HB6_5.out.ext e6)
  have HB7_6 := Lib.hid bB7; have HGEB7 : Hid (w.heap.size ≤ i7) := Lib.hid (Nat.le_trans HX5.out.size hgeB7)
  have HB8_6 := Lib.hid bB8; have HGEB8 : Hid (w.heap.size ≤ i8) := Lib.hid (Nat.le_trans HX5.out.size hgeB8)
  have HNEB0B7 : Hid (w.heap.size ≠ i7) := Lib.hid (by have := HB0_5.out.lt; omega)
  have HNEB0B8 : Hid (w.heap.size ≠ i8) := Lib.hid (by have := HB0_5.out.lt; omega)
  have HNEB1B7 : Hid (w.heap.size + 1 ≠ i7) := Lib.hid (by have := HB1_5.out.lt; omega)
  have HNEB1B8 : Hid (w.heap.size + 1 ≠ i8) := Lib.hid (by have := HB1_5.out.lt; omega)
  have HNEB2B7 : Hid (w.heap.size + 1 + 1 ≠ i7) := Lib.hid (by have := HB2_5.out.lt; omega)
  have HNEB2B8 : Hid (w.heap.size + 1 + 1 ≠ i8) := Lib.hid (by have := HB2_5.out.lt; omega)
  have HNEB3B7 : Hid (w.heap.size + 1 + 1 + 1 ≠ i7) := Lib.hid (by have := HB3_5.out.lt; omega)
  have HNEB3B8 : Hid (w.heap.size + 1 + 1 + 1 ≠ i8) := Lib.hid (by have := HB3_5.out.lt; omega)
  have HNEB6B7 : Hid (w4.heap.size ≠ i7) := Lib.hid (by have := HB6_5.out.lt; omega)
  have HNEB6B8 : Hid (w4.heap.size ≠ i8) := Lib.hid (by have := HB6_5.out.lt; omega)
  have HNEB7B8 := Lib.hid hne10
  clear hgeB7 hgeB8 hne10 e6 bB7 bB8
  go_wp2_with fail
  refine wp_name (fun W => Ext w W ∧ Blk W (w.heap.size) #[.string (qs p.n.x), .string (qs p.n.y), .string (qs p.n.z), .string (qs p.c)] 48 ∧ Blk W (w.heap.size + 1) #[.string (qs q.n.x), .string (qs q.n.y), .string (qs q.n.z), .string (qs q.c)] 48 ∧ Blk W (w.heap.size + 1 + 1) #[.string ⟨#[]⟩, .string ⟨#[]⟩, .string ⟨#[]⟩] 30 ∧ Blk W (w.heap.size + 1 + 1 + 1) #[.string ⟨#[]⟩, .string ⟨#[]⟩, .string ⟨#[]⟩] 30 ∧ Blk W (w4.heap.size) #[.string (qs (p.n.y * q.n.z - p.n.z * q.n.y)), .string (qs (p.n.z * q.n.x - p.n.x * q.n.z)), .string (qs (p.n.x * q.n.y - p.n.y * q.n.x))] 108 ∧ Blk W (i7) #[.string (qs p.n.x), .string (qs p.n.y), .string (qs p.n.z)] 108 ∧ Blk W (i8) #[.string (qs q.n.x), .string (qs q.n.y), .string (qs q.n.z)] 108 ∧ Blk W (w6.heap.size) #[.string ⟨#[]⟩, .string ⟨#[48]⟩, .string ⟨#[]⟩] 108) ⟨(HX6.out.alloc _), (HB0_6.out.alloc _), (HB1_6.out.alloc _), (HB2_6.out.alloc _), (HB3_6.out.alloc _), (HB6_6.out.alloc _), (HB7_6.out.alloc _), (HB8_6.out.alloc _), (Blk.new' (w := _) (cs := #[.string ⟨#[]⟩, .string ⟨#[48]⟩, .string ⟨#[]⟩]) (t := 108) (by first | rfl | (simp only [World.size_alloc]; done) | (simp only [World.size_alloc]; omega) | simp))⟩ ?_
  rintro w7 ⟨e7, bB0_7, bB1_7, bB2_7, bB3_7, bB6_7, bB7_7, bB8_7, bB9_7⟩
  have HX7 := Lib.hid e7; have HB0_7 := Lib.hid bB0_7; have HB1_7 := Lib.hid bB1_7; have HB2_7 := Lib.hid bB2_7; have HB3_7 := Lib.hid bB3_7; have HB6_7 := Lib.hid bB6_7; have HB7_7 := Lib.hid bB7_7; have HB8_7 := Lib.hid bB8_7; have HB9_7 := Lib.hid bB9_7
  have HGEB9 : Hid (w.heap.size ≤ w6.heap.size) := Lib.hid (by have := HX6.out.size; first | omega | (simp only []; omega) | (simp; omega))
  clear e7 bB0_7 bB1_7 bB2_7 bB3_7 bB6_7 bB7_7 bB8_7 bB9_7
  have hS7 : w7.cell? ⟨w.heap.size, 3, none⟩ = some (.string (qs p.c)) ∧ w7.cell? ⟨i7, 0, none⟩ = some (.string (qs p.n.x)) ∧ w7.cell? ⟨w.heap.size + 1, 3, none⟩ = some (.string (qs q.c)) ∧ w7.cell? ⟨i8, 0, none⟩ = some (.string (qs q.n.x)) ∧ w7.cell? ⟨w4.heap.size, 1, none⟩ = some (.string (qs (p.n.z * q.n.x - p.n.x * q.n.z))) := ⟨HB0_7.out.cell 3 rfl, HB7_7.out.cell 0 rfl, HB1_7.out.cell 3 rfl, HB8_7.out.cell 0 rfl, HB6_7.out.cell 1 rfl⟩
  have HS7 := Lib.hid hS7; clear hS7
  go_region_held3 (fun w' => w'.cell? ⟨w.heap.size, 3, none⟩ = some (.string (qs p.c)) ∧ w'.cell? ⟨i7, 0, none⟩ = some (.string (qs p.n.x)) ∧ w'.cell? ⟨w.heap.size + 1, 3, none⟩ = some (.string (qs q.c)) ∧ w'.cell? ⟨i8, 0, none⟩ = some (.string (qs q.n.x)) ∧ w'.cell? ⟨w4.heap.size, 1, none⟩ = some (.string (qs (p.n.z * q.n.x - p.n.x * q.n.z))))
    (((try simp only [cell_set_ne (show w.heap.size ≠ w6.heap.size from by have := HB0_6.out.lt; first | omega | (simp only []; omega) | (simp; omega)), cell_set_ne (show i7 ≠ w6.heap.size from by have := HB7_6.out.lt; first | omega | (simp only []; omega) | (simp; omega)), cell_set_ne (show w.heap.size + 1 ≠ w6.heap.size from by have := HB1_6.out.lt; first | omega | (simp only []; omega) | (simp; omega)), cell_set_ne (show i8 ≠ w6.heap.size from by have := HB8_6.out.lt; first | omega | (simp only []; omega) | (simp; omega)), cell_set_ne (show w4.heap.size ≠ w6.heap.size from by have := HB6_6.out.lt; first | omega | (simp only []; omega) | (simp; omega))]); exact keepsH5 (by repeat (first | assumption | exact Ext.refl _ | apply Ext.drew | apply Ext.alloc | (refine Ext.setCell ?_ (by first | omega | (simp only []; omega) | (simp; omega)) _) | (refine Ext.trans ?_ (by assumption)))) HS7.out)) ((first
      | (go_at_call 85; ((with_reducible refine (vminor_c p.c p.n.x q.c q.n.x _ (HG.out.ext (HX7.out.trans (by repeat (first | assumption | exact Ext.refl _ | apply Ext.drew | apply Ext.alloc | (refine Ext.setCell ?_ (by first | omega | (simp only []; omega) | (simp; omega)) _) | (refine Ext.trans ?_ (by assumption)))))) HPC.out HP.out.x HQC.out HQ.out.x (by omega) (by omega) (by omega) (by omega)).mono ?_); rintro e w8 ⟨rfl, e8⟩))
      | (go_at_call 84; ((with_reducible refine (rdiv_c (p.c * q.n.x - p.n.x * q.c) (p.n.z * q.n.x - p.n.x * q.n.z) _ (HG.out.ext (HX7.out.trans (by repeat (first | assumption | exact Ext.refl _ | apply Ext.drew | apply Ext.alloc | (refine Ext.setCell ?_ (by first | omega | (simp only []; omega) | (simp; omega)) _) | (refine Ext.trans ?_ (by assumption)))))) ((HPC.out.mul HQ.out.x).sub (HP.out.x.mul HQC.out)) ((HP.out.z.mul HQ.out.x).sub (HP.out.x.mul HQ.out.z)) (by omega) (by omega) (by omega) H1.out).mono ?_); rintro e w9 ⟨rfl, e9⟩; have RB9 := Blk.ext HB9_7.out (w' := w9) (by repeat (first | assumption | exact Ext.refl _ | apply Ext.drew | (refine Ext.trans ?_ (by assumption)))); have cB9_2 := RB9.cell 2 rfl; have fB9_2 := RB9.free 2; have HRB9 := Lib.hid RB9; clear RB9))))
  refine wp_name (fun W => Ext w W ∧ Blk W (w.heap.size) #[.string (qs p.n.x), .string (qs p.n.y), .string (qs p.n.z), .string (qs p.c)] 48 ∧ Blk W (w.heap.size + 1) #[.string (qs q.n.x), .string (qs q.n.y), .string (qs q.n.z), .string (qs q.c)] 48 ∧ Blk W (w.heap.size + 1 + 1) #[.string ⟨#[]⟩, .string ⟨#[]⟩, .string ⟨#[]⟩] 30 ∧ Blk W (w.heap.size + 1 + 1 + 1) #[.string ⟨#[]⟩, .string ⟨#[]⟩, .string ⟨#[]⟩] 30 ∧ Blk W (w4.heap.size) #[.string (qs (p.n.y * q.n.z - p.n.z * q.n.y)), .string (qs (p.n.z * q.n.x - p.n.x * q.n.z)), .string (qs (p.n.x * q.n.y - p.n.y * q.n.x))] 108 ∧ Blk W (i7) #[.string (qs p.n.x), .string (qs p.n.y), .string (qs p.n.z)] 108 ∧ Blk W (i8) #[.string (qs q.n.x), .string (qs q.n.y), .string (qs q.n.z)] 108 ∧ Blk W (w6.heap.size) #[.string ⟨#[]⟩, .string ⟨#[48]⟩, .string (qs ((p.c * q.n.x - p.n.x * q.c) / (p.n.z * q.n.x - p.n.x * q.n.z)))] 108) ⟨((HX7.out.trans (((Ext.refl _).drew.trans e8).trans e9)).setCell (by have := HGEB9.out; first | omega | (simp only []; omega) | (simp; omega)) _), ((Blk.ext HB0_7.out (((Ext.refl _).drew.trans e8).trans e9)).other (a := ⟨w6.heap.size, 2, none⟩) _ (by have := HB0_6.out.lt; first | omega | (simp only []; omega) | (simp; omega))), ((Blk.ext HB1_7.out (((Ext.refl _).drew.trans e8).trans e9)).other (a := ⟨w6.heap.size, 2, none⟩) _ (by have := HB1_6.out.lt; first | omega | (simp only []; omega) | (simp; omega))), ((Blk.ext HB2_7.out (((Ext.refl _).drew.trans e8).trans e9)).other (a := ⟨w6.heap.size, 2, none⟩) _ (by have := HB2_6.out.lt; first | omega | (simp only []; omega) | (simp; omega))), ((Blk.ext HB3_7.out (((Ext.refl _).drew.trans e8).trans e9)).other (a := ⟨w6.heap.size, 2, none⟩) _ (by have := HB3_6.out.lt; first | omega | (simp only []; omega) | (simp; omega))), ((Blk.ext HB6_7.out (((Ext.refl _).drew.trans e8).trans e9)).other (a := ⟨w6.heap.size, 2, none⟩) _ (by have := HB6_6.out.lt; first | omega | (simp only []; omega) | (simp; omega))), ((Blk.ext HB7_7.out (((Ext.refl _).drew.trans e8).trans e9)).other (a := ⟨w6.heap.size, 2, none⟩) _ (by have := HB7_6.out.lt; first | omega | (simp only []; omega) | (simp; omega))), ((Blk.ext HB8_7.out (((Ext.refl _).drew.trans e8).trans e9)).other (a := ⟨w6.heap.size, 2, none⟩) _ (by have := HB8_6.out.lt; first | omega | (simp only []; omega) | (simp; omega))), ((Blk.ext HB9_7.out (((Ext.refl _).drew.trans e8).trans e9)).set 2 (.string (qs ((p.c * q.n.x - p.n.x * q.c) / (p.n.z * q.n.x - p.n.x * q.n.z)))))⟩ ?_
  clear cB9_2 fB9_2
  rintro w10 ⟨e10, bB0_10, bB1_10, bB2_10, bB3_10, bB6_10, bB7_10, bB8_10, bB9_10⟩
  have HX10 := Lib.hid e10; have HB0_10 := Lib.hid bB0_10; have HB1_10 := Lib.hid bB1_10; have HB2_10 := Lib.hid bB2_10; have HB3_10 := Lib.hid bB3_10; have HB6_10 := Lib.hid bB6_10; have HB7_10 := Lib.hid bB7_10; have HB8_10 := Lib.hid bB8_10; have HB9_10 := Lib.hid bB9_10
  clear e10 bB0_10 bB1_10 bB2_10 bB3_10 bB6_10 bB7_10 bB8_10 bB9_10
  go_wp2_with fail
  refine wp_name (fun W => Ext w W ∧ Blk W (w.heap.size) #[.string (qs p.n.x), .string (qs p.n.y), .string (qs p.n.z), .string (qs p.c)] 48 ∧ Blk W (w.heap.size + 1) #[.string (qs q.n.x), .string (qs q.n.y), .string (qs q.n.z), .string (qs q.c)] 48 ∧ Blk W (w.heap.size + 1 + 1) #[.string ⟨#[]⟩, .string ⟨#[]⟩, .string ⟨#[]⟩] 30 ∧ Blk W (w.heap.size + 1 + 1 + 1) #[.string ⟨#[]⟩, .string ⟨#[]⟩, .string ⟨#[]⟩] 30 ∧ Blk W (w4.heap.size) #[.string (qs (p.n.y * q.n.z - p.n.z * q.n.y)), .string (qs (p.n.z * q.n.x - p.n.x * q.n.z)), .string (qs (p.n.x * q.n.y - p.n.y * q.n.x))] 108 ∧ Blk W (i7) #[.string (qs p.n.x), .string (qs p.n.y), .string (qs p.n.z)] 108 ∧ Blk W (i8) #[.string (qs q.n.x), .string (qs q.n.y), .string (qs q.n.z)] 108 ∧ Blk W (w6.heap.size) #[.string ⟨#[]⟩, .string ⟨#[48]⟩, .string (qs ((p.c * q.n.x - p.n.x * q.c) / (p.n.z * q.n.x - p.n.x * q.n.z)))] 108) ⟨HX10.out, HB0_10.out, HB1_10.out, HB2_10.out, HB3_10.out, HB6_10.out, HB7_10.out, HB8_10.out, HB9_10.out⟩ ?_
  rintro w11 ⟨e11, bB0_11, bB1_11, bB2_11, bB3_11, bB6_11, bB7_11, bB8_11, bB9_11⟩
  have HX11 := Lib.hid e11; have HB0_11 := Lib.hid bB0_11; have HB1_11 := Lib.hid bB1_11; have HB2_11 := Lib.hid bB2_11; have HB3_11 := Lib.hid bB3_11; have HB6_11 := Lib.hid bB6_11; have HB7_11 := Lib.hid bB7_11; have HB8_11 := Lib.hid bB8_11; have HB9_11 := Lib.hid bB9_11
  clear e11 bB0_11 bB1_11 bB2_11 bB3_11 bB6_11 bB7_11 bB8_11 bB9_11
  have hS11 : w11.cell? ⟨i7, 2, none⟩ = some (.string (qs p.n.z)) ∧ w11.cell? ⟨w.heap.size, 3, none⟩ = some (.string (qs p.c)) ∧ w11.cell? ⟨i8, 2, none⟩ = some (.string (qs q.n.z)) ∧ w11.cell? ⟨w.heap.size + 1, 3, none⟩ = some (.string (qs q.c)) ∧ w11.cell? ⟨w4.heap.size, 1, none⟩ = some (.string (qs (p.n.z * q.n.x - p.n.x * q.n.z))) := ⟨HB7_11.out.cell 2 rfl, HB0_11.out.cell 3 rfl, HB8_11.out.cell 2 rfl, HB1_11.out.cell 3 rfl, HB6_11.out.cell 1 rfl⟩
  have HS11 := Lib.hid hS11; clear hS11
  go_region_held3 (fun w' => w'.cell? ⟨i7, 2, none⟩ = some (.string (qs p.n.z)) ∧ w'.cell? ⟨w.heap.size, 3, none⟩ = some (.string (qs p.c)) ∧ w'.cell? ⟨i8, 2, none⟩ = some (.string (qs q.n.z)) ∧ w'.cell? ⟨w.heap.size + 1, 3, none⟩ = some (.string (qs q.c)) ∧ w'.cell? ⟨w4.heap.size, 1, none⟩ = some (.string (qs (p.n.z * q.n.x - p.n.x * q.n.z))))
    (((try simp only [cell_set_ne (show i7 ≠ w6.heap.size from by have := HB7_6.out.lt; first | omega | (simp only []; omega) | (simp; omega)), cell_set_ne (show w.heap.size ≠ w6.heap.size from by have := HB0_6.out.lt; first | omega | (simp only []; omega) | (simp; omega)), cell_set_ne (show i8 ≠ w6.heap.size from by have := HB8_6.out.lt; first | omega | (simp only []; omega) | (simp; omega)), cell_set_ne (show w.heap.size + 1 ≠ w6.heap.size from by have := HB1_6.out.lt; first | omega | (simp only []; omega) | (simp; omega)), cell_set_ne (show w4.heap.size ≠ w6.heap.size from by have := HB6_6.out.lt; first | omega | (simp only []; omega) | (simp; omega))]); exact keepsH5 (by repeat (first | assumption | exact Ext.refl _ | apply Ext.drew | apply Ext.alloc | (refine Ext.setCell ?_ (by first | omega | (simp only []; omega) | (simp; omega)) _) | (refine Ext.trans ?_ (by assumption)))) HS11.out)) ((first
      | (go_at_call 85; ((with_reducible refine (vminor_c p.n.z p.c q.n.z q.c _ (HG.out.ext (HX11.out.trans (by repeat (first | assumption | exact Ext.refl _ | apply Ext.drew | apply Ext.alloc | (refine Ext.setCell ?_ (by first | omega | (simp only []; omega) | (simp; omega)) _) | (refine Ext.trans ?_ (by assumption)))))) HP.out.z HPC.out HQ.out.z HQC.out (by omega) (by omega) (by omega) (by omega)).mono ?_); rintro e w12 ⟨rfl, e12⟩))
      | (go_at_call 84; ((with_reducible refine (rdiv_c (p.n.z * q.c - p.c * q.n.z) (p.n.z * q.n.x - p.n.x * q.n.z) _ (HG.out.ext (HX11.out.trans (by repeat (first | assumption | exact Ext.refl _ | apply Ext.drew | apply Ext.alloc | (refine Ext.setCell ?_ (by first | omega | (simp only []; omega) | (simp; omega)) _) | (refine Ext.trans ?_ (by assumption)))))) ((HP.out.z.mul HQC.out).sub (HPC.out.mul HQ.out.z)) ((HP.out.z.mul HQ.out.x).sub (HP.out.x.mul HQ.out.z)) (by omega) (by omega) (by omega) H1.out).mono ?_); rintro e w13 ⟨rfl, e13⟩; have RB9 := Blk.ext HB9_11.out (w' := w13) (by repeat (first | assumption | exact Ext.refl _ | apply Ext.drew | (refine Ext.trans ?_ (by assumption)))); have cB9_0 := RB9.cell 0 rfl; have fB9_0 := RB9.free 0; have HRB9 := Lib.hid RB9; clear RB9))))
  refine wp_name (fun W => Ext w W ∧ Blk W (w.heap.size + 1 + 1) #[.string ⟨#[]⟩, .string ⟨#[]⟩, .string ⟨#[]⟩] 30 ∧ Blk W (w.heap.size + 1 + 1 + 1) #[.string ⟨#[]⟩, .string ⟨#[]⟩, .string ⟨#[]⟩] 30 ∧ Blk W (w4.heap.size) #[.string (qs (p.n.y * q.n.z - p.n.z * q.n.y)), .string (qs (p.n.z * q.n.x - p.n.x * q.n.z)), .string (qs (p.n.x * q.n.y - p.n.y * q.n.x))] 108 ∧ Blk W (w6.heap.size) #[.string (qs ((p.n.z * q.c - p.c * q.n.z) / (p.n.z * q.n.x - p.n.x * q.n.z))), .string ⟨#[48]⟩, .string (qs ((p.c * q.n.x - p.n.x * q.c) / (p.n.z * q.n.x - p.n.x * q.n.z)))] 108) ⟨((HX11.out.trans (((Ext.refl _).drew.trans e12).trans e13)).setCell (by have := HGEB9.out; first | omega | (simp only []; omega) | (simp; omega)) _), ((Blk.ext HB2_11.out (((Ext.refl _).drew.trans e12).trans e13)).other (a := ⟨w6.heap.size, 0, none⟩) _ (by have := HB2_6.out.lt; first | omega | (simp only []; omega) | (simp; omega))), ((Blk.ext HB3_11.out (((Ext.refl _).drew.trans e12).trans e13)).other (a := ⟨w6.heap.size, 0, none⟩) _ (by have := HB3_6.out.lt; first | omega | (simp only []; omega) | (simp; omega))), ((Blk.ext HB6_11.out (((Ext.refl _).drew.trans e12).trans e13)).other (a := ⟨w6.heap.size, 0, none⟩) _ (by have := HB6_6.out.lt; first | omega | (simp only []; omega) | (simp; omega))), ((Blk.ext HB9_11.out (((Ext.refl _).drew.trans e12).trans e13)).set 0 (.string (qs ((p.n.z * q.c - p.c * q.n.z) / (p.n.z * q.n.x - p.n.x * q.n.z)))))⟩ ?_
  clear cB9_0 fB9_0
  rintro w14 ⟨e14, bB2_14, bB3_14, bB6_14, bB9_14⟩
  have HX14 := Lib.hid e14; have HB2_14 := Lib.hid bB2_14; have HB3_14 := Lib.hid bB3_14; have HB6_14 := Lib.hid bB6_14; have HB9_14 := Lib.hid bB9_14
  clear e14 bB2_14 bB3_14 bB6_14 bB9_14
  have c9_0 := HB9_14.out.cell 0 rfl
  have c9_1 := HB9_14.out.cell 1 rfl
  have c9_2 := HB9_14.out.cell 2 rfl
  go_wp2_with fail
  refine (res_1 ((p.n.z * q.c - p.c * q.n.z) / (p.n.z * q.n.x - p.n.x * q.n.z)) ((p.c * q.n.x - p.n.x * q.c) / (p.n.z * q.n.x - p.n.x * q.n.z)) _ HRK.out HRI.out).mono ?_; rintro e w15 ⟨rfl, e15⟩
  have HX15 : Hid (Ext w w15) := Lib.hid (HX14.out.trans e15)
  have HB2_15 := Lib.hid (Blk.ext HB2_14.out e15)
  have HB3_15 := Lib.hid (Blk.ext HB3_14.out e15)
  have HB6_15 := Lib.hid (Blk.ext HB6_14.out e15)
  clear e15 c9_0 c9_1 c9_2
  have c2_0 := HB2_15.out.cell 0 rfl
  have f2_0 := HB2_15.out.free 0
  have c2_1 := HB2_15.out.cell 1 rfl
  have f2_1 := HB2_15.out.free 1
  have c2_2 := HB2_15.out.cell 2 rfl
  have f2_2 := HB2_15.out.free 2
  go_upto_region 23 with fail
  refine wp_name (fun W => Ext w W ∧ Blk W (w.heap.size + 1 + 1) #[.string (qs ((p.n.z * q.c - p.c * q.n.z) / (p.n.z * q.n.x - p.n.x * q.n.z))), .string ⟨#[48]⟩, .string (qs ((p.c * q.n.x - p.n.x * q.c) / (p.n.z * q.n.x - p.n.x * q.n.z)))] 30 ∧ Blk W (w.heap.size + 1 + 1 + 1) #[.string ⟨#[]⟩, .string ⟨#[]⟩, .string ⟨#[]⟩] 30 ∧ Blk W (w4.heap.size) #[.string (qs (p.n.y * q.n.z - p.n.z * q.n.y)), .string (qs (p.n.z * q.n.x - p.n.x * q.n.z)), .string (qs (p.n.x * q.n.y - p.n.y * q.n.x))] 108) ⟨(((HX15.out.setCell (by have := HGEB2.out; first | omega | (simp only []; omega) | (simp; omega)) _).setCell (by have := HGEB2.out; first | omega | (simp only []; omega) | (simp; omega)) _).setCell (by have := HGEB2.out; first | omega | (simp only []; omega) | (simp; omega)) _), (((HB2_15.out.set 0 (.string (qs ((p.n.z * q.c - p.c * q.n.z) / (p.n.z * q.n.x - p.n.x * q.n.z))))).set 1 (.string ⟨#[48]⟩)).set 2 (.string (qs ((p.c * q.n.x - p.n.x * q.c) / (p.n.z * q.n.x - p.n.x * q.n.z))))), (((HB3_15.out.other (a := ⟨w.heap.size + 1 + 1, 0, none⟩) _ (by first | omega | (simp only []; omega) | (simp; omega))).other (a := ⟨w.heap.size + 1 + 1, 1, none⟩) _ (by first | omega | (simp only []; omega) | (simp; omega))).other (a := ⟨w.heap.size + 1 + 1, 2, none⟩) _ (by first | omega | (simp only []; omega) | (simp; omega))), (((HB6_15.out.other (a := ⟨w.heap.size + 1 + 1, 0, none⟩) _ (by have := HB2_4.out.lt; first | omega | (simp only []; omega) | (simp; omega))).other (a := ⟨w.heap.size + 1 + 1, 1, none⟩) _ (by have := HB2_4.out.lt; first | omega | (simp only []; omega) | (simp; omega))).other (a := ⟨w.heap.size + 1 + 1, 2, none⟩) _ (by have := HB2_4.out.lt; first | omega | (simp only []; omega) | (simp; omega)))⟩ ?_
  rintro w16 ⟨e16, bB2_16, bB3_16, bB6_16⟩
  have HX16 := Lib.hid e16; have HB2_16 := Lib.hid bB2_16; have HB3_16 := Lib.hid bB3_16; have HB6_16 := Lib.hid bB6_16
  clear e16 bB2_16 bB3_16 bB6_16 c2_0 f2_0 c2_1 f2_1 c2_2 f2_2
  have c6_0 := HB6_16.out.cell 0 rfl
  have c6_1 := HB6_16.out.cell 1 rfl
  have c6_2 := HB6_16.out.cell 2 rfl
  go_wp2_with fail
  refine (result_3 (p.n.y * q.n.z - p.n.z * q.n.y) (p.n.z * q.n.x - p.n.x * q.n.z) (p.n.x * q.n.y - p.n.y * q.n.x) _ HR.out.x HR.out.y HR.out.z).mono ?_; rintro e w17 ⟨rfl, e17⟩
  have HX17 : Hid (Ext w w17) := Lib.hid (HX16.out.trans e17)
  have HB2_17 : Hid (Blk w17 (w.heap.size + 1 + 1) #[.string (qs ((p.n.z * q.c - p.c * q.n.z) / (p.n.z * q.n.x - p.n.x * q.n.z))), .string ⟨#[48]⟩, .string (qs ((p.c * q.n.x - p.n.x * q.c) / (p.n.z * q.n.x - p.n.x * q.n.z)))] 30) := Lib.hid (Blk.ext HB2_16.out e17)
  have HB3_17 := Lib.hid (Blk.ext HB3_16.out e17)
  clear e17 c6_0 c6_1 c6_2
  have c3_0 := HB3_17.out.cell 0 rfl
  have f3_0 := HB3_17.out.free 0
  have c3_1 := HB3_17.out.cell 1 rfl
  have f3_1 := HB3_17.out.free 1
  have c3_2 := HB3_17.out.cell 2 rfl
  have f3_2 := HB3_17.out.free 2
  go_wp2_with fail
  refine wp_name (fun W => Ext w W ∧ Blk W (w.heap.size + 1 + 1) #[.string (qs ((p.n.z * q.c - p.c * q.n.z) / (p.n.z * q.n.x - p.n.x * q.n.z))), .string ⟨#[48]⟩, .string (qs ((p.c * q.n.x - p.n.x * q.c) / (p.n.z * q.n.x - p.n.x * q.n.z)))] 30 ∧ Blk W (w.heap.size + 1 + 1 + 1) #[.string (qs (p.n.y * q.n.z - p.n.z * q.n.y)), .string (qs (p.n.z * q.n.x - p.n.x * q.n.z)), .string (qs (p.n.x * q.n.y - p.n.y * q.n.x))] 30) ⟨(((HX17.out.setCell (by have := HGEB3.out; first | omega | (simp only []; omega) | (simp; omega)) _).setCell (by have := HGEB3.out; first | omega | (simp only []; omega) | (simp; omega)) _).setCell (by have := HGEB3.out; first | omega | (simp only []; omega) | (simp; omega)) _), (((HB2_17.out.other (a := ⟨w.heap.size + 1 + 1 + 1, 0, none⟩) _ (by first | omega | (simp only []; omega) | (simp; omega))).other (a := ⟨w.heap.size + 1 + 1 + 1, 1, none⟩) _ (by first | omega | (simp only []; omega) | (simp; omega))).other (a := ⟨w.heap.size + 1 + 1 + 1, 2, none⟩) _ (by first | omega | (simp only []; omega) | (simp; omega))), (((HB3_17.out.set 0 (.string (qs (p.n.y * q.n.z - p.n.z * q.n.y)))).set 1 (.string (qs (p.n.z * q.n.x - p.n.x * q.n.z)))).set 2 (.string (qs (p.n.x * q.n.y - p.n.y * q.n.x))))⟩ ?_
  rintro w18 ⟨e18, bB2_18, bB3_18⟩
  have HX18 := Lib.hid e18; have HB2_18 := Lib.hid bB2_18; have HB3_18 := Lib.hid bB3_18
  clear e18 bB2_18 bB3_18 c3_0 f3_0 c3_1 f3_1 c3_2 f3_2
  have cB2_0 := HB2_18.out.cell 0 rfl; have fB2_0 := HB2_18.out.free 0
  have cB2_1 := HB2_18.out.cell 1 rfl; have fB2_1 := HB2_18.out.free 1
  have cB2_2 := HB2_18.out.cell 2 rfl; have fB2_2 := HB2_18.out.free 2
  have cB3_0 := HB3_18.out.cell 0 rfl; have fB3_0 := HB3_18.out.free 0
  have cB3_1 := HB3_18.out.cell 1 rfl; have fB3_1 := HB3_18.out.free 1
  have cB3_2 := HB3_18.out.cell 2 rfl; have fB3_2 := HB3_18.out.free 2
  have nb : w.heap.size + 1 + 1 ≠ w.heap.size + 1 + 1 + 1 := by first | omega | (simp only []; omega) | (simp; omega)
  go_region
  go_wp2_with fail
  refine wp_name (fun W => Ext w W ∧ Blk W (w.heap.size + 1 + 1) #[.string (qs ((p.n.z * q.c - p.c * q.n.z) / (p.n.z * q.n.x - p.n.x * q.n.z))), .string ⟨#[48]⟩, .string (qs ((p.c * q.n.x - p.n.x * q.c) / (p.n.z * q.n.x - p.n.x * q.n.z)))] 30 ∧ Blk W (w.heap.size + 1 + 1 + 1) #[.string (qs (p.n.y * q.n.z - p.n.z * q.n.y)), .string (qs (p.n.z * q.n.x - p.n.x * q.n.z)), .string (qs (p.n.x * q.n.y - p.n.y * q.n.x))] 30) ⟨(((((((HX18.out.setCell (by have := HGEB2.out; first | omega | (simp only []; omega) | (simp; omega)) _).setCell (by have := HGEB2.out; first | omega | (simp only []; omega) | (simp; omega)) _).setCell (by have := HGEB2.out; first | omega | (simp only []; omega) | (simp; omega)) _).setCell (by have := HGEB3.out; first | omega | (simp only []; omega) | (simp; omega)) _).setCell (by have := HGEB3.out; first | omega | (simp only []; omega) | (simp; omega)) _).setCell (by have := HGEB3.out; first | omega | (simp only []; omega) | (simp; omega)) _).drew), (((((((HB2_18.out.set 0 (.string (qs ((p.n.z * q.c - p.c * q.n.z) / (p.n.z * q.n.x - p.n.x * q.n.z))))).set 1 (.string ⟨#[48]⟩)).set 2 (.string (qs ((p.c * q.n.x - p.n.x * q.c) / (p.n.z * q.n.x - p.n.x * q.n.z))))).other (a := ⟨w.heap.size + 1 + 1 + 1, 0, none⟩) _ (by first | omega | (simp only []; omega) | (simp; omega))).other (a := ⟨w.heap.size + 1 + 1 + 1, 1, none⟩) _ (by first | omega | (simp only []; omega) | (simp; omega))).other (a := ⟨w.heap.size + 1 + 1 + 1, 2, none⟩) _ (by first | omega | (simp only []; omega) | (simp; omega))).drew), (((((((HB3_18.out.other (a := ⟨w.heap.size + 1 + 1, 0, none⟩) _ (by first | omega | (simp only []; omega) | (simp; omega))).other (a := ⟨w.heap.size + 1 + 1, 1, none⟩) _ (by first | omega | (simp only []; omega) | (simp; omega))).other (a := ⟨w.heap.size + 1 + 1, 2, none⟩) _ (by first | omega | (simp only []; omega) | (simp; omega))).set 0 (.string (qs (p.n.y * q.n.z - p.n.z * q.n.y)))).set 1 (.string (qs (p.n.z * q.n.x - p.n.x * q.n.z)))).set 2 (.string (qs (p.n.x * q.n.y - p.n.y * q.n.x)))).drew)⟩ ?_
  rintro w19 ⟨e19, bB2_19, bB3_19⟩
  have HX19 := Lib.hid e19; have HB2_19 := Lib.hid bB2_19; have HB3_19 := Lib.hid bB3_19
  clear e19 bB2_19 bB3_19 cB2_0 fB2_0 cB2_1 fB2_1 cB2_2 fB2_2 cB3_0 fB3_0 cB3_1 fB3_1 cB3_2 fB3_2 nb
  have gB2_0 := HB2_19.out.cell 0 rfl
  have gB2_1 := HB2_19.out.cell 1 rfl
  have gB2_2 := HB2_19.out.cell 2 rfl
  have gB3_0 := HB3_19.out.cell 0 rfl
  have gB3_1 := HB3_19.out.cell 1 rfl
  have gB3_2 := HB3_19.out.cell 2 rfl
  refine bodyPost_ret (v := .tuple #[.agg #[.string (qs ((p.n.z * q.c - p.c * q.n.z) / (p.n.z * q.n.x - p.n.x * q.n.z))), .string ⟨#[48]⟩, .string (qs ((p.c * q.n.x - p.n.x * q.c) / (p.n.z * q.n.x - p.n.x * q.n.z)))], .agg #[.string (qs (p.n.y * q.n.z - p.n.z * q.n.y)), .string (qs (p.n.z * q.n.x - p.n.x * q.n.z)), .string (qs (p.n.x * q.n.y - p.n.y * q.n.x))], .int .i64 0]) (by simp [results, Tryz.results25, go_sem, gB2_0, gB2_1, gB2_2, gB3_0, gB3_1, gB3_2]) rfl ⟨rfl, HX19.out⟩
end Go.Proofs.YtglppcmegocphaaGreatDoor

namespace Go.Proofs.YtglppcmegocphaaGreatDoor
open Go Go.RowKit
set_option maxRecDepth 100000
theorem kof_1_0_0 (w : World) (g : Gd w) : Calls Tryz.prog 66 #[(.int .i64 1), (.int .i64 0), (.int .i64 0)] w (Ret w (.agg #[.string ⟨#[49]⟩, .string ⟨#[48]⟩, .string ⟨#[48]⟩])) := by
  have h := sof_c 1 0 0 w g (by decide) (by decide) (by decide)
  exact Eq.mp (by kernel_rfl) h

theorem kof_0_1_0 (w : World) (g : Gd w) : Calls Tryz.prog 66 #[(.int .i64 0), (.int .i64 1), (.int .i64 0)] w (Ret w (.agg #[.string ⟨#[48]⟩, .string ⟨#[49]⟩, .string ⟨#[48]⟩])) := by
  have h := sof_c 0 1 0 w g (by decide) (by decide) (by decide)
  exact Eq.mp (by kernel_rfl) h

theorem kof_0_0_1 (w : World) (g : Gd w) : Calls Tryz.prog 66 #[(.int .i64 0), (.int .i64 0), (.int .i64 1)] w (Ret w (.agg #[.string ⟨#[48]⟩, .string ⟨#[48]⟩, .string ⟨#[49]⟩])) := by
  have h := sof_c 0 0 1 w g (by decide) (by decide) (by decide)
  exact Eq.mp (by kernel_rfl) h

theorem kof_1_0_1 (w : World) (g : Gd w) : Calls Tryz.prog 66 #[(.int .i64 1), (.int .i64 0), (.int .i64 1)] w (Ret w (.agg #[.string ⟨#[49]⟩, .string ⟨#[48]⟩, .string ⟨#[49]⟩])) := by
  have h := sof_c 1 0 1 w g (by decide) (by decide) (by decide)
  exact Eq.mp (by kernel_rfl) h

theorem kof_3_m2_0 (w : World) (g : Gd w) : Calls Tryz.prog 66 #[(.int .i64 3), (.int .i64 (-2)), (.int .i64 0)] w (Ret w (.agg #[.string ⟨#[51]⟩, .string ⟨#[45, 50]⟩, .string ⟨#[48]⟩])) := by
  have h := sof_c 3 (-2) 0 w g (by decide) (by decide) (by decide)
  exact Eq.mp (by kernel_rfl) h

theorem kat_0_0 (w : World) (g : Gd w) : Calls Tryz.prog 49 #[.int .i64 0, .int .i64 0] w (Ret w (.agg #[.string ⟨#[48]⟩, .string ⟨#[48]⟩])) := by
  have h := sat_c 0 0 w g (by decide) (by decide)
  exact Eq.mp (by kernel_rfl) h

theorem kat_4_0 (w : World) (g : Gd w) : Calls Tryz.prog 49 #[.int .i64 4, .int .i64 0] w (Ret w (.agg #[.string ⟨#[52]⟩, .string ⟨#[48]⟩])) := by
  have h := sat_c 4 0 w g (by decide) (by decide)
  exact Eq.mp (by kernel_rfl) h

theorem kat_0_2 (w : World) (g : Gd w) : Calls Tryz.prog 49 #[.int .i64 0, .int .i64 2] w (Ret w (.agg #[.string ⟨#[48]⟩, .string ⟨#[50]⟩])) := by
  have h := sat_c 0 2 w g (by decide) (by decide)
  exact Eq.mp (by kernel_rfl) h

theorem kat_2_1 (w : World) (g : Gd w) : Calls Tryz.prog 49 #[.int .i64 2, .int .i64 1] w (Ret w (.agg #[.string ⟨#[50]⟩, .string ⟨#[49]⟩])) := by
  have h := sat_c 2 1 w g (by decide) (by decide)
  exact Eq.mp (by kernel_rfl) h

theorem kcross (w : World) (g : Gd w) : Calls Tryz.prog 29 #[.agg #[.string ⟨#[49]⟩, .string ⟨#[48]⟩, .string ⟨#[48]⟩], .agg #[.string ⟨#[48]⟩, .string ⟨#[49]⟩, .string ⟨#[48]⟩]] w (Ret w (.tuple #[.agg #[.string ⟨#[48]⟩, .string ⟨#[48]⟩, .string ⟨#[49]⟩], .int .i64 0])) := by
  have h := vCross_ok ⟨1, 0, 0⟩ ⟨0, 1, 0⟩ w g ⟨⟨by decide +kernel, by decide +kernel⟩, ⟨by decide +kernel, by decide +kernel⟩, ⟨by decide +kernel, by decide +kernel⟩⟩ ⟨⟨by decide +kernel, by decide +kernel⟩, ⟨by decide +kernel, by decide +kernel⟩, ⟨by decide +kernel, by decide +kernel⟩⟩ ⟨⟨by decide +kernel, by decide +kernel⟩, ⟨by decide +kernel, by decide +kernel⟩, ⟨by decide +kernel, by decide +kernel⟩⟩
  exact Eq.mp (by kernel_rfl) h

theorem kprim (w : World) (g : Gd w) : Calls Tryz.prog 15 #[.agg #[.string ⟨#[49, 47, 50]⟩, .string ⟨#[45, 49, 47, 51]⟩, .string ⟨#[48]⟩]] w (Ret w (.tuple #[.agg #[.string ⟨#[51]⟩, .string ⟨#[45, 50]⟩, .string ⟨#[48]⟩], .int .i64 0])) := by
  have h := vPrim_ok ⟨(1 / 2), ((-1) / 3), 0⟩ w g ⟨⟨by decide +kernel, by decide +kernel⟩, ⟨by decide +kernel, by decide +kernel⟩, ⟨by decide +kernel, by decide +kernel⟩⟩ (by decide +kernel) ⟨⟨by decide +kernel, by decide +kernel⟩, ⟨by decide +kernel, by decide +kernel⟩, ⟨by decide +kernel, by decide +kernel⟩⟩ (by decide +kernel) ⟨⟨by decide +kernel, by decide +kernel⟩, ⟨by decide +kernel, by decide +kernel⟩, ⟨by decide +kernel, by decide +kernel⟩⟩
  exact Eq.mp (by kernel_rfl) h

theorem karea (w : World) (g : Gd w) : Calls Tryz.prog 60 #[.agg #[.string ⟨#[48]⟩, .string ⟨#[48]⟩], .agg #[.string ⟨#[52]⟩, .string ⟨#[48]⟩], .agg #[.string ⟨#[48]⟩, .string ⟨#[50]⟩]] w (Ret w (.tuple #[.string ⟨#[56]⟩, .int .i64 0])) := by
  have h := vArea_ok ⟨0, 0⟩ ⟨4, 0⟩ ⟨0, 2⟩ w g ⟨⟨by decide +kernel, by decide +kernel⟩, ⟨by decide +kernel, by decide +kernel⟩⟩ ⟨⟨by decide +kernel, by decide +kernel⟩, ⟨by decide +kernel, by decide +kernel⟩⟩ ⟨⟨by decide +kernel, by decide +kernel⟩, ⟨by decide +kernel, by decide +kernel⟩⟩ ⟨by decide +kernel, by decide +kernel⟩
  exact Eq.mp (by kernel_rfl) h

theorem kthrough (w : World) (g : Gd w) : Calls Tryz.prog 40 #[.agg #[.string ⟨#[48]⟩, .string ⟨#[48]⟩], .agg #[.string ⟨#[50]⟩, .string ⟨#[49]⟩]] w (Ret w (.tuple #[.agg #[.string ⟨#[45, 49]⟩, .string ⟨#[50]⟩, .string ⟨#[48]⟩], .int .i64 0])) := by
  have h := vThrough_ok ⟨0, 0⟩ ⟨2, 1⟩ w g ⟨⟨by decide +kernel, by decide +kernel⟩, ⟨by decide +kernel, by decide +kernel⟩⟩ ⟨⟨by decide +kernel, by decide +kernel⟩, ⟨by decide +kernel, by decide +kernel⟩⟩ ⟨⟨by decide +kernel, by decide +kernel⟩, ⟨by decide +kernel, by decide +kernel⟩, ⟨by decide +kernel, by decide +kernel⟩⟩ (by intro h; have := congrArg P2.x h; revert this; decide +kernel)
  exact Eq.mp (by kernel_rfl) h

theorem kcommon (w : World) (g : Gd w) : Calls Tryz.prog 25 #[.agg #[.string ⟨#[48]⟩, .string ⟨#[48]⟩, .string ⟨#[49]⟩, .string ⟨#[48]⟩], .agg #[.string ⟨#[49]⟩, .string ⟨#[48]⟩, .string ⟨#[49]⟩, .string ⟨#[49]⟩]] w (Ret w (.tuple #[.agg #[.string ⟨#[49]⟩, .string ⟨#[48]⟩, .string ⟨#[48]⟩], .agg #[.string ⟨#[48]⟩, .string ⟨#[49]⟩, .string ⟨#[48]⟩], .int .i64 0])) := by
  have h := vCommon_1 ⟨⟨0, 0, 1⟩, 0⟩ ⟨⟨1, 0, 1⟩, 1⟩ w g ⟨⟨by decide +kernel, by decide +kernel⟩, ⟨by decide +kernel, by decide +kernel⟩, ⟨by decide +kernel, by decide +kernel⟩⟩ ⟨by decide +kernel, by decide +kernel⟩ ⟨⟨by decide +kernel, by decide +kernel⟩, ⟨by decide +kernel, by decide +kernel⟩, ⟨by decide +kernel, by decide +kernel⟩⟩ ⟨by decide +kernel, by decide +kernel⟩ (by decide +kernel) (by decide +kernel) ⟨⟨by decide +kernel, by decide +kernel⟩, ⟨by decide +kernel, by decide +kernel⟩, ⟨by decide +kernel, by decide +kernel⟩⟩ ⟨by decide +kernel, by decide +kernel⟩ ⟨by decide +kernel, by decide +kernel⟩ (by decide +kernel) (by decide +kernel)
  exact Eq.mp (by kernel_rfl) h
end Go.Proofs.YtglppcmegocphaaGreatDoor

namespace Go.Proofs.YtglppcmegocphaaGreatDoor
open Go Go.RowKit
set_option maxRecDepth 100000 in
set_option maxHeartbeats 8000000 in
theorem known_c (w : World) (g : Gd w) : Calls Tryz.prog 13 #[] w (Ret w (.bool true)) := by
  have HG := Lib.hid g
  clear g
  go_enter Tryz.func13, Tryz.ntmps13
  go_wp2_with fail
  refine (kof_1_0_0 _ (HG.out.ext (Ext.refl w))).mono ?_; rintro e w1 ⟨rfl, e1⟩
  have HX1 : Hid (Ext w w1) := Lib.hid ((Ext.refl w).trans e1)
  clear e1
  go_wp2_with fail
  refine (kof_0_1_0 _ (HG.out.ext HX1.out)).mono ?_; rintro e w2 ⟨rfl, e2⟩
  have HX2 : Hid (Ext w w2) := Lib.hid (HX1.out.trans e2)
  clear e2
  go_wp2_with fail
  refine (kcross _ (HG.out.ext HX2.out)).mono ?_; rintro e w3 ⟨rfl, e3⟩
  have HX3 : Hid (Ext w w3) := Lib.hid (HX2.out.trans e3)
  clear e3
  go_wp2_with fail
  refine (kprim _ (HG.out.ext (HX3.out.alloc _))).mono ?_; rintro e w4 ⟨rfl, e4⟩
  have HX4 : Hid (Ext w w4) := Lib.hid ((HX3.out.alloc _).trans e4)
  have HB0_4 : Hid (Blk w4 (w3.heap.size) #[.string ⟨#[48]⟩, .string ⟨#[48]⟩, .string ⟨#[49]⟩] 30) := Lib.hid (Blk.ext (Blk.new' (w := _) (cs := #[.string ⟨#[48]⟩, .string ⟨#[48]⟩, .string ⟨#[49]⟩]) (t := 30) (by first | rfl | (simp only [World.size_alloc]; done) | (simp only [World.size_alloc]; omega) | simp)) e4)
  have HGEB0 : Hid (w.heap.size ≤ w3.heap.size) := Lib.hid (by have := HX3.out.size; first | omega | (simp only []; omega) | (simp; omega))
  clear e4
  go_wp2_with fail
  refine (kat_0_0 _ (HG.out.ext (HX4.out.alloc _))).mono ?_; rintro e w5 ⟨rfl, e5⟩
  have HX5 : Hid (Ext w w5) := Lib.hid ((HX4.out.alloc _).trans e5)
  have HB0_5 : Hid (Blk w5 (w3.heap.size) #[.string ⟨#[48]⟩, .string ⟨#[48]⟩, .string ⟨#[49]⟩] 30) := Lib.hid (Blk.ext (HB0_4.out.alloc _) e5)
  have HB1_5 : Hid (Blk w5 (w4.heap.size) #[.string ⟨#[51]⟩, .string ⟨#[45, 50]⟩, .string ⟨#[48]⟩] 30) := Lib.hid (Blk.ext (Blk.new' (w := _) (cs := #[.string ⟨#[51]⟩, .string ⟨#[45, 50]⟩, .string ⟨#[48]⟩]) (t := 30) (by first | rfl | (simp only [World.size_alloc]; done) | (simp only [World.size_alloc]; omega) | simp)) e5)
  have HGEB1 : Hid (w.heap.size ≤ w4.heap.size) := Lib.hid (by have := HX4.out.size; first | omega | (simp only []; omega) | (simp; omega))
  clear e5
  go_wp2_with fail
  refine (kat_4_0 _ (HG.out.ext HX5.out)).mono ?_; rintro e w6 ⟨rfl, e6⟩
  have HX6 : Hid (Ext w w6) := Lib.hid (HX5.out.trans e6)
  have HB0_6 := Lib.hid (Blk.ext HB0_5.out e6)
  have HB1_6 := Lib.hid (Blk.ext HB1_5.out e6)
  clear e6
  go_wp2_with fail
  refine (kat_0_2 _ (HG.out.ext HX6.out)).mono ?_; rintro e w7 ⟨rfl, e7⟩
  have HX7 : Hid (Ext w w7) := Lib.hid (HX6.out.trans e7)
  have HB0_7 := Lib.hid (Blk.ext HB0_6.out e7)
  have HB1_7 := Lib.hid (Blk.ext HB1_6.out e7)
  clear e7
  go_wp2_with fail
  refine (karea _ (HG.out.ext HX7.out)).mono ?_; rintro e w8 ⟨rfl, e8⟩
  have HX8 : Hid (Ext w w8) := Lib.hid (HX7.out.trans e8)
  have HB0_8 := Lib.hid (Blk.ext HB0_7.out e8)
  have HB1_8 := Lib.hid (Blk.ext HB1_7.out e8)
  clear e8
  go_wp2_with fail
  refine (kat_0_0 _ (HG.out.ext HX8.out)).mono ?_; rintro e w9 ⟨rfl, e9⟩
  have HX9 : Hid (Ext w w9) := Lib.hid (HX8.out.trans e9)
  have HB0_9 := Lib.hid (Blk.ext HB0_8.out e9)
  have HB1_9 := Lib.hid (Blk.ext HB1_8.out e9)
  clear e9
  go_wp2_with fail
  refine (kat_2_1 _ (HG.out.ext HX9.out)).mono ?_; rintro e w10 ⟨rfl, e10⟩
  have HX10 : Hid (Ext w w10) := Lib.hid (HX9.out.trans e10)
  have HB0_10 := Lib.hid (Blk.ext HB0_9.out e10)
  have HB1_10 := Lib.hid (Blk.ext HB1_9.out e10)
  clear e10
  go_wp2_with fail
  refine (kthrough _ (HG.out.ext HX10.out)).mono ?_; rintro e w11 ⟨rfl, e11⟩
  have HX11 : Hid (Ext w w11) := Lib.hid (HX10.out.trans e11)
  have HB0_11 := Lib.hid (Blk.ext HB0_10.out e11)
  have HB1_11 := Lib.hid (Blk.ext HB1_10.out e11)
  clear e11
  go_wp2_with fail
  refine (kof_0_0_1 _ (HG.out.ext (HX11.out.alloc _))).mono ?_; rintro e w12 ⟨rfl, e12⟩
  have HX12 : Hid (Ext w w12) := Lib.hid ((HX11.out.alloc _).trans e12)
  have HB0_12 : Hid (Blk w12 (w3.heap.size) #[.string ⟨#[48]⟩, .string ⟨#[48]⟩, .string ⟨#[49]⟩] 30) := Lib.hid (Blk.ext (HB0_11.out.alloc _) e12)
  have HB1_12 : Hid (Blk w12 (w4.heap.size) #[.string ⟨#[51]⟩, .string ⟨#[45, 50]⟩, .string ⟨#[48]⟩] 30) := Lib.hid (Blk.ext (HB1_11.out.alloc _) e12)
  have HB2_12 : Hid (Blk w12 (w11.heap.size) #[.string ⟨#[45, 49]⟩, .string ⟨#[50]⟩, .string ⟨#[48]⟩] 73) := Lib.hid (Blk.ext (Blk.new' (w := _) (cs := #[.string ⟨#[45, 49]⟩, .string ⟨#[50]⟩, .string ⟨#[48]⟩]) (t := 73) (by first | rfl | (simp only [World.size_alloc]; done) | (simp only [World.size_alloc]; omega) | simp)) e12)
  have HGEB2 : Hid (w.heap.size ≤ w11.heap.size) := Lib.hid (by have := HX11.out.size; first | omega | (simp only []; omega) | (simp; omega))
  clear e12
  go_wp2_with fail
  refine (kof_1_0_1 _ (HG.out.ext HX12.out)).mono ?_; rintro e w13 ⟨rfl, e13⟩
  have HX13 : Hid (Ext w w13) := Lib.hid (HX12.out.trans e13)
  have HB0_13 := Lib.hid (Blk.ext HB0_12.out e13)
  have HB1_13 := Lib.hid (Blk.ext HB1_12.out e13)
  have HB2_13 := Lib.hid (Blk.ext HB2_12.out e13)
  clear e13
  go_wp2_with fail
  refine (kcommon _ (HG.out.ext HX13.out)).mono ?_; rintro e w14 ⟨rfl, e14⟩
  have HX14 : Hid (Ext w w14) := Lib.hid (HX13.out.trans e14)
  have HB0_14 := Lib.hid (Blk.ext HB0_13.out e14)
  have HB1_14 := Lib.hid (Blk.ext HB1_13.out e14)
  have HB2_14 := Lib.hid (Blk.ext HB2_13.out e14)
  clear e14
  go_wp2_with fail
  refine wp_name (fun W => Ext w W ∧ Blk W (w3.heap.size) #[.string ⟨#[48]⟩, .string ⟨#[48]⟩, .string ⟨#[49]⟩] 30 ∧ Blk W (w4.heap.size) #[.string ⟨#[51]⟩, .string ⟨#[45, 50]⟩, .string ⟨#[48]⟩] 30 ∧ Blk W (w11.heap.size) #[.string ⟨#[45, 49]⟩, .string ⟨#[50]⟩, .string ⟨#[48]⟩] 73 ∧ Blk W (w14.heap.size) #[.string ⟨#[49]⟩, .string ⟨#[48]⟩, .string ⟨#[48]⟩] 30 ∧ Blk W (w14.heap.size + 1) #[.string ⟨#[48]⟩, .string ⟨#[49]⟩, .string ⟨#[48]⟩] 30) ⟨((HX14.out.alloc _).alloc _), ((HB0_14.out.alloc _).alloc _), ((HB1_14.out.alloc _).alloc _), ((HB2_14.out.alloc _).alloc _), ((Blk.new' (w := _) (cs := #[.string ⟨#[49]⟩, .string ⟨#[48]⟩, .string ⟨#[48]⟩]) (t := 30) (by first | rfl | (simp only [World.size_alloc]; done) | (simp only [World.size_alloc]; omega) | simp)).alloc _), (Blk.new' (w := _) (cs := #[.string ⟨#[48]⟩, .string ⟨#[49]⟩, .string ⟨#[48]⟩]) (t := 30) (by first | rfl | (simp only [World.size_alloc]; done) | (simp only [World.size_alloc]; omega) | simp))⟩ ?_
  rintro w15 ⟨e15, bB0_15, bB1_15, bB2_15, bB3_15, bB4_15⟩
  have HX15 := Lib.hid e15; have HB0_15 := Lib.hid bB0_15; have HB1_15 := Lib.hid bB1_15; have HB2_15 := Lib.hid bB2_15; have HB3_15 := Lib.hid bB3_15; have HB4_15 := Lib.hid bB4_15
  have HGEB3 : Hid (w.heap.size ≤ w14.heap.size) := Lib.hid (by have := HX14.out.size; first | omega | (simp only []; omega) | (simp; omega))
  have HGEB4 : Hid (w.heap.size ≤ w14.heap.size + 1) := Lib.hid (by have := HX14.out.size; first | omega | (simp only []; omega) | (simp; omega))
  clear e15 bB0_15 bB1_15 bB2_15 bB3_15 bB4_15
  have hS15 : w15.cell? ⟨w3.heap.size, 0, none⟩ = some (.string ⟨#[48]⟩) ∧ w15.cell? ⟨w3.heap.size, 1, none⟩ = some (.string ⟨#[48]⟩) ∧ w15.cell? ⟨w3.heap.size, 2, none⟩ = some (.string ⟨#[49]⟩) ∧ w15.cell? ⟨w4.heap.size, 0, none⟩ = some (.string ⟨#[51]⟩) ∧ w15.cell? ⟨w4.heap.size, 1, none⟩ = some (.string ⟨#[45, 50]⟩) ∧ w15.cell? ⟨w4.heap.size, 2, none⟩ = some (.string ⟨#[48]⟩) ∧ w15.cell? ⟨w11.heap.size, 0, none⟩ = some (.string ⟨#[45, 49]⟩) ∧ w15.cell? ⟨w11.heap.size, 1, none⟩ = some (.string ⟨#[50]⟩) ∧ w15.cell? ⟨w11.heap.size, 2, none⟩ = some (.string ⟨#[48]⟩) ∧ w15.cell? ⟨w14.heap.size + 1, 0, none⟩ = some (.string ⟨#[48]⟩) ∧ w15.cell? ⟨w14.heap.size + 1, 1, none⟩ = some (.string ⟨#[49]⟩) ∧ w15.cell? ⟨w14.heap.size + 1, 2, none⟩ = some (.string ⟨#[48]⟩) ∧ w15.cell? ⟨w14.heap.size, 0, none⟩ = some (.string ⟨#[49]⟩) ∧ w15.cell? ⟨w14.heap.size, 1, none⟩ = some (.string ⟨#[48]⟩) ∧ w15.cell? ⟨w14.heap.size, 2, none⟩ = some (.string ⟨#[48]⟩) := ⟨HB0_15.out.cell 0 rfl, HB0_15.out.cell 1 rfl, HB0_15.out.cell 2 rfl, HB1_15.out.cell 0 rfl, HB1_15.out.cell 1 rfl, HB1_15.out.cell 2 rfl, HB2_15.out.cell 0 rfl, HB2_15.out.cell 1 rfl, HB2_15.out.cell 2 rfl, HB4_15.out.cell 0 rfl, HB4_15.out.cell 1 rfl, HB4_15.out.cell 2 rfl, HB3_15.out.cell 0 rfl, HB3_15.out.cell 1 rfl, HB3_15.out.cell 2 rfl⟩
  have HS15 := Lib.hid hS15; clear hS15
  go_region_held3 (fun w' => w'.cell? ⟨w3.heap.size, 0, none⟩ = some (.string ⟨#[48]⟩) ∧ w'.cell? ⟨w3.heap.size, 1, none⟩ = some (.string ⟨#[48]⟩) ∧ w'.cell? ⟨w3.heap.size, 2, none⟩ = some (.string ⟨#[49]⟩) ∧ w'.cell? ⟨w4.heap.size, 0, none⟩ = some (.string ⟨#[51]⟩) ∧ w'.cell? ⟨w4.heap.size, 1, none⟩ = some (.string ⟨#[45, 50]⟩) ∧ w'.cell? ⟨w4.heap.size, 2, none⟩ = some (.string ⟨#[48]⟩) ∧ w'.cell? ⟨w11.heap.size, 0, none⟩ = some (.string ⟨#[45, 49]⟩) ∧ w'.cell? ⟨w11.heap.size, 1, none⟩ = some (.string ⟨#[50]⟩) ∧ w'.cell? ⟨w11.heap.size, 2, none⟩ = some (.string ⟨#[48]⟩) ∧ w'.cell? ⟨w14.heap.size + 1, 0, none⟩ = some (.string ⟨#[48]⟩) ∧ w'.cell? ⟨w14.heap.size + 1, 1, none⟩ = some (.string ⟨#[49]⟩) ∧ w'.cell? ⟨w14.heap.size + 1, 2, none⟩ = some (.string ⟨#[48]⟩) ∧ w'.cell? ⟨w14.heap.size, 0, none⟩ = some (.string ⟨#[49]⟩) ∧ w'.cell? ⟨w14.heap.size, 1, none⟩ = some (.string ⟨#[48]⟩) ∧ w'.cell? ⟨w14.heap.size, 2, none⟩ = some (.string ⟨#[48]⟩))
    ((exact keepsH15 (by repeat (first | assumption | exact Ext.refl _ | apply Ext.drew | apply Ext.alloc | (refine Ext.setCell ?_ (by first | omega | (simp only []; omega) | (simp; omega)) _) | (refine Ext.trans ?_ (by assumption)))) HS15.out)) ((first
      | (go_at_call 66; ((with_reducible refine (kof_0_0_1 _ (HG.out.ext (HX15.out.trans (by repeat (first | assumption | exact Ext.refl _ | apply Ext.drew | apply Ext.alloc | (refine Ext.setCell ?_ (by first | omega | (simp only []; omega) | (simp; omega)) _) | (refine Ext.trans ?_ (by assumption))))))).mono ?_); rintro e w16 ⟨rfl, e16⟩))
      | (go_at_call 66; ((with_reducible refine (kof_3_m2_0 _ (HG.out.ext (HX15.out.trans (by repeat (first | assumption | exact Ext.refl _ | apply Ext.drew | apply Ext.alloc | (refine Ext.setCell ?_ (by first | omega | (simp only []; omega) | (simp; omega)) _) | (refine Ext.trans ?_ (by assumption))))))).mono ?_); rintro e w17 ⟨rfl, e17⟩))
      | (go_at_call 66; ((with_reducible refine (kof_0_1_0 _ (HG.out.ext (HX15.out.trans (by repeat (first | assumption | exact Ext.refl _ | apply Ext.drew | apply Ext.alloc | (refine Ext.setCell ?_ (by first | omega | (simp only []; omega) | (simp; omega)) _) | (refine Ext.trans ?_ (by assumption))))))).mono ?_); rintro e w18 ⟨rfl, e18⟩))
      | (go_at_call 66; ((with_reducible refine (kof_1_0_0 _ (HG.out.ext (HX15.out.trans (by repeat (first | assumption | exact Ext.refl _ | apply Ext.drew | apply Ext.alloc | (refine Ext.setCell ?_ (by first | omega | (simp only []; omega) | (simp; omega)) _) | (refine Ext.trans ?_ (by assumption))))))).mono ?_); rintro e w19 ⟨rfl, e19⟩))))
  refine wp_name (fun W => Ext w W) (HX15.out.trans (((((Ext.refl _).drew.trans e16).trans e17).trans e18).trans e19)) ?_
  rintro w20 e20
  have HX20 := Lib.hid e20
  clear e20
  go_wp2
  go_ret
  exact ⟨rfl, HX20.out⟩
end Go.Proofs.YtglppcmegocphaaGreatDoor

namespace Go.Proofs.YtglppcmegocphaaGreatDoor
open Go Go.RowKit
def sm (n : Int) (d : Nat) : Rat := mkRat n (1 + d)
theorem sm_qb {n : Int} {d : Nat} (h0 : -32768 ≤ n) (h1 : n ≤ 32767) (h2 : d ≤ 255) : QB 5 (sm n d) := QB.mk' (by omega) (by omega) (by omega)
theorem fqofD (n D : Int) (d : Nat) (w : World) (g : Gd w) (hD : D = (d : Int)) (hd : d ≠ 0) (h0 : -32768 ≤ n) (h1 : n ≤ 32767) (h2 : d ≤ 256) : Calls Tryz.prog 22 #[.int .i64 n, .int .i64 D] w (Ret w (.string (qs (mkRat n d)))) := by
  subst hD; exact fqof_c n d w g hd (by omega) (by omega) (by omega)
structure Pla where
  n0 : Int
  d0 : Nat
  n1 : Int
  d1 : Nat
  n2 : Int
  d2 : Nat
structure PlaOk (p : Pla) : Prop where
  a0 : -32768 ≤ p.n0
  b0 : p.n0 ≤ 32767
  c0 : p.d0 ≤ 255
  a1 : -32768 ≤ p.n1
  b1 : p.n1 ≤ 32767
  c1 : p.d1 ≤ 255
  a2 : -32768 ≤ p.n2
  b2 : p.n2 ≤ 32767
  c2 : p.d2 ≤ 255
abbrev plc (p : Pla) : Value := .agg #[.int .i16 p.n0, .int .u8 (p.d0 : Int), .int .i16 p.n1, .int .u8 (p.d1 : Int), .int .i16 p.n2, .int .u8 (p.d2 : Int)]
def pvec (p : Pla) : V3 := ⟨sm p.n0 p.d0, sm p.n1 p.d1, sm p.n2 p.d2⟩
def ppt (p : Pla) : P2 := ⟨sm p.n0 p.d0, sm p.n1 p.d1⟩
theorem PlaOk.v {p : Pla} (h : PlaOk p) : VB 5 (pvec p) := ⟨sm_qb h.a0 h.b0 h.c0, sm_qb h.a1 h.b1 h.c1, sm_qb h.a2 h.b2 h.c2⟩
theorem PlaOk.p {p : Pla} (h : PlaOk p) : PB 5 (ppt p) := ⟨sm_qb h.a0 h.b0 h.c0, sm_qb h.a1 h.b1 h.c1⟩

set_option maxRecDepth 100000 in
set_option maxHeartbeats 2000000 in
theorem mk2_c (n : Int) (d : Nat) (w : World) (g : Gd w) (h0 : -32768 ≤ n) (h1 : n ≤ 32767) (h2 : d ≤ 255) : Calls Tryz.prog 24 #[.agg #[.int .i16 n, .int .u8 (d : Int)]] w (Ret w (.string (qs (sm n d)))) := by
  have HG := Lib.hid g
  clear g
  go_enter Tryz.func24, Tryz.ntmps24
  go_wp2_with fail
  refine (fqofD n _ (1 + d) _ (HG.out.ext ((Ext.refl w).alloc _)) (by simp) (by omega) h0 h1 (by omega)).mono ?_; rintro e w1 ⟨rfl, e1⟩
  have HX1 : Hid (Ext w w1) := Lib.hid (((Ext.refl w).alloc _).trans e1)
  clear e1
  go_wp2
  go_ret
  exact ⟨rfl, HX1.out⟩

set_option maxRecDepth 100000 in
set_option maxHeartbeats 2000000 in
theorem make0_c (p : Pla) (w : World) (g : Gd w) (hp : PlaOk p) : Calls Tryz.prog 14 #[.agg #[.int .i16 p.n0, .int .u8 (p.d0 : Int), .int .i16 p.n1, .int .u8 (p.d1 : Int), .int .i16 p.n2, .int .u8 (p.d2 : Int)]] w (Ret w (.agg #[.string (qs (sm p.n0 p.d0)), .string (qs (sm p.n1 p.d1)), .string (qs (sm p.n2 p.d2))])) := by
  have HP := Lib.hid hp
  have HG := Lib.hid g
  clear hp g
  go_enter Tryz.func14, Tryz.ntmps14
  go_wp2_with fail
  refine wp_name (fun W => Ext w W ∧ Blk W (w.heap.size) #[.int .i16 p.n0, .int .u8 (p.d0 : Int), .int .i16 p.n1, .int .u8 (p.d1 : Int), .int .i16 p.n2, .int .u8 (p.d2 : Int)] 26 ∧ Blk W (w.heap.size + 1) #[.string ⟨#[]⟩, .string ⟨#[]⟩, .string ⟨#[]⟩] 30) ⟨(((Ext.refl w).alloc _).alloc _), ((Blk.new' (w := _) (cs := #[.int .i16 p.n0, .int .u8 (p.d0 : Int), .int .i16 p.n1, .int .u8 (p.d1 : Int), .int .i16 p.n2, .int .u8 (p.d2 : Int)]) (t := 26) (by first | rfl | (simp only [World.size_alloc]; done) | (simp only [World.size_alloc]; omega) | simp)).alloc _), (Blk.new' (w := _) (cs := #[.string ⟨#[]⟩, .string ⟨#[]⟩, .string ⟨#[]⟩]) (t := 30) (by first | rfl | (simp only [World.size_alloc]; done) | (simp only [World.size_alloc]; omega) | simp))⟩ ?_
  rintro w1 ⟨e1, bB0_1, bB1_1⟩
  have HX1 := Lib.hid e1; have HB0_1 := Lib.hid bB0_1; have HB1_1 := Lib.hid bB1_1
  have HGEB0 : Hid (w.heap.size ≤ w.heap.size) := Lib.hid (by first | omega | (simp only []; omega) | (simp; omega))
  have HGEB1 : Hid (w.heap.size ≤ w.heap.size + 1) := Lib.hid (by first | omega | (simp only []; omega) | (simp; omega))
  clear e1 bB0_1 bB1_1
  have hS1 : w1.cell? ⟨w.heap.size, 0, none⟩ = some (.int .i16 p.n0) ∧ w1.cell? ⟨w.heap.size, 1, none⟩ = some (.int .u8 (p.d0 : Int)) ∧ w1.cell? ⟨w.heap.size, 2, none⟩ = some (.int .i16 p.n1) ∧ w1.cell? ⟨w.heap.size, 3, none⟩ = some (.int .u8 (p.d1 : Int)) ∧ w1.cell? ⟨w.heap.size, 4, none⟩ = some (.int .i16 p.n2) ∧ w1.cell? ⟨w.heap.size, 5, none⟩ = some (.int .u8 (p.d2 : Int)) := ⟨HB0_1.out.cell 0 rfl, HB0_1.out.cell 1 rfl, HB0_1.out.cell 2 rfl, HB0_1.out.cell 3 rfl, HB0_1.out.cell 4 rfl, HB0_1.out.cell 5 rfl⟩
  have HS1 := Lib.hid hS1; clear hS1
  go_region_held3 (fun w' => w'.cell? ⟨w.heap.size, 0, none⟩ = some (.int .i16 p.n0) ∧ w'.cell? ⟨w.heap.size, 1, none⟩ = some (.int .u8 (p.d0 : Int)) ∧ w'.cell? ⟨w.heap.size, 2, none⟩ = some (.int .i16 p.n1) ∧ w'.cell? ⟨w.heap.size, 3, none⟩ = some (.int .u8 (p.d1 : Int)) ∧ w'.cell? ⟨w.heap.size, 4, none⟩ = some (.int .i16 p.n2) ∧ w'.cell? ⟨w.heap.size, 5, none⟩ = some (.int .u8 (p.d2 : Int)))
    (((try simp only [cell_set_ne (show w.heap.size ≠ w.heap.size + 1 from by first | omega | (simp only []; omega) | (simp; omega))]); exact keepsH6 (by repeat (first | assumption | exact Ext.refl _ | apply Ext.drew | apply Ext.alloc | (refine Ext.setCell ?_ (by first | omega | (simp only []; omega) | (simp; omega)) _) | (refine Ext.trans ?_ (by assumption)))) HS1.out)) ((first
      | (go_at_call 24; ((with_reducible refine (mk2_c p.n0 p.d0 _ (HG.out.ext (HX1.out.trans (by repeat (first | assumption | exact Ext.refl _ | apply Ext.drew | apply Ext.alloc | (refine Ext.setCell ?_ (by first | omega | (simp only []; omega) | (simp; omega)) _) | (refine Ext.trans ?_ (by assumption)))))) HP.out.a0 HP.out.b0 HP.out.c0).mono ?_); rintro e w2 ⟨rfl, e2⟩))
      | (go_at_call 24; ((with_reducible refine (mk2_c p.n1 p.d1 _ (HG.out.ext (HX1.out.trans (by repeat (first | assumption | exact Ext.refl _ | apply Ext.drew | apply Ext.alloc | (refine Ext.setCell ?_ (by first | omega | (simp only []; omega) | (simp; omega)) _) | (refine Ext.trans ?_ (by assumption)))))) HP.out.a1 HP.out.b1 HP.out.c1).mono ?_); rintro e w3 ⟨rfl, e3⟩))
      | (go_at_call 24; ((with_reducible refine (mk2_c p.n2 p.d2 _ (HG.out.ext (HX1.out.trans (by repeat (first | assumption | exact Ext.refl _ | apply Ext.drew | apply Ext.alloc | (refine Ext.setCell ?_ (by first | omega | (simp only []; omega) | (simp; omega)) _) | (refine Ext.trans ?_ (by assumption)))))) HP.out.a2 HP.out.b2 HP.out.c2).mono ?_); rintro e w4 ⟨rfl, e4⟩; have RB1 := Blk.ext HB1_1.out (w' := w4) (by repeat (first | assumption | exact Ext.refl _ | apply Ext.drew | (refine Ext.trans ?_ (by assumption)))); have cB1_0 := RB1.cell 0 rfl; have fB1_0 := RB1.free 0; have cB1_1 := RB1.cell 1 rfl; have fB1_1 := RB1.free 1; have cB1_2 := RB1.cell 2 rfl; have fB1_2 := RB1.free 2; have HRB1 := Lib.hid RB1; clear RB1))))
  refine wp_name (fun W => Ext w W ∧ Blk W (w.heap.size + 1) #[.string (qs (sm p.n0 p.d0)), .string (qs (sm p.n1 p.d1)), .string (qs (sm p.n2 p.d2))] 30) ⟨((((HX1.out.trans (by repeat (first | assumption | exact Ext.refl _ | apply Ext.drew | apply Ext.alloc | (refine Ext.trans ?_ (by assumption))))).setCell (by have := HGEB1.out; first | omega | (simp only []; omega) | (simp; omega)) _).setCell (by have := HGEB1.out; first | omega | (simp only []; omega) | (simp; omega)) _).setCell (by have := HGEB1.out; first | omega | (simp only []; omega) | (simp; omega)) _), ((((Blk.ext HB1_1.out (by repeat (first | assumption | exact Ext.refl _ | apply Ext.drew | apply Ext.alloc | (refine Ext.trans ?_ (by assumption))))).set 0 (.string (qs (sm p.n0 p.d0)))).set 1 (.string (qs (sm p.n1 p.d1)))).set 2 (.string (qs (sm p.n2 p.d2))))⟩ ?_
  clear cB1_0 fB1_0 cB1_1 fB1_1 cB1_2 fB1_2
  rintro w5 ⟨e5, bB1_5⟩
  have HX5 := Lib.hid e5; have HB1_5 := Lib.hid bB1_5
  clear e5 bB1_5
  go_wp2_with fail
  have gB1_0 := HB1_5.out.cell 0 rfl
  have gB1_1 := HB1_5.out.cell 1 rfl
  have gB1_2 := HB1_5.out.cell 2 rfl
  refine bodyPost_ret (v := .agg #[.string (qs (sm p.n0 p.d0)), .string (qs (sm p.n1 p.d1)), .string (qs (sm p.n2 p.d2))]) (by simp [results, Tryz.results14, go_sem, gB1_0, gB1_1, gB1_2]) rfl ⟨rfl, HX5.out⟩

set_option maxRecDepth 100000 in
set_option maxHeartbeats 2000000 in
theorem point0_c (p : Pla) (w : World) (g : Gd w) (hp : PlaOk p) : Calls Tryz.prog 33 #[.agg #[.int .i16 p.n0, .int .u8 (p.d0 : Int), .int .i16 p.n1, .int .u8 (p.d1 : Int), .int .i16 p.n2, .int .u8 (p.d2 : Int)]] w (Ret w (.agg #[.string (qs (sm p.n0 p.d0)), .string (qs (sm p.n1 p.d1))])) := by
  have HP := Lib.hid hp
  have HG := Lib.hid g
  clear hp g
  go_enter Tryz.func33, Tryz.ntmps33
  go_wp2_with fail
  refine wp_name (fun W => Ext w W ∧ Blk W (w.heap.size) #[.int .i16 p.n0, .int .u8 (p.d0 : Int), .int .i16 p.n1, .int .u8 (p.d1 : Int), .int .i16 p.n2, .int .u8 (p.d2 : Int)] 26 ∧ Blk W (w.heap.size + 1) #[.string ⟨#[]⟩, .string ⟨#[]⟩] 62) ⟨(((Ext.refl w).alloc _).alloc _), ((Blk.new' (w := _) (cs := #[.int .i16 p.n0, .int .u8 (p.d0 : Int), .int .i16 p.n1, .int .u8 (p.d1 : Int), .int .i16 p.n2, .int .u8 (p.d2 : Int)]) (t := 26) (by first | rfl | (simp only [World.size_alloc]; done) | (simp only [World.size_alloc]; omega) | simp)).alloc _), (Blk.new' (w := _) (cs := #[.string ⟨#[]⟩, .string ⟨#[]⟩]) (t := 62) (by first | rfl | (simp only [World.size_alloc]; done) | (simp only [World.size_alloc]; omega) | simp))⟩ ?_
  rintro w1 ⟨e1, bB0_1, bB1_1⟩
  have HX1 := Lib.hid e1; have HB0_1 := Lib.hid bB0_1; have HB1_1 := Lib.hid bB1_1
  have HGEB0 : Hid (w.heap.size ≤ w.heap.size) := Lib.hid (by first | omega | (simp only []; omega) | (simp; omega))
  have HGEB1 : Hid (w.heap.size ≤ w.heap.size + 1) := Lib.hid (by first | omega | (simp only []; omega) | (simp; omega))
  clear e1 bB0_1 bB1_1
  have hS1 : w1.cell? ⟨w.heap.size, 0, none⟩ = some (.int .i16 p.n0) ∧ w1.cell? ⟨w.heap.size, 1, none⟩ = some (.int .u8 (p.d0 : Int)) ∧ w1.cell? ⟨w.heap.size, 2, none⟩ = some (.int .i16 p.n1) ∧ w1.cell? ⟨w.heap.size, 3, none⟩ = some (.int .u8 (p.d1 : Int)) := ⟨HB0_1.out.cell 0 rfl, HB0_1.out.cell 1 rfl, HB0_1.out.cell 2 rfl, HB0_1.out.cell 3 rfl⟩
  have HS1 := Lib.hid hS1; clear hS1
  go_region_held3 (fun w' => w'.cell? ⟨w.heap.size, 0, none⟩ = some (.int .i16 p.n0) ∧ w'.cell? ⟨w.heap.size, 1, none⟩ = some (.int .u8 (p.d0 : Int)) ∧ w'.cell? ⟨w.heap.size, 2, none⟩ = some (.int .i16 p.n1) ∧ w'.cell? ⟨w.heap.size, 3, none⟩ = some (.int .u8 (p.d1 : Int)))
    (((try simp only [cell_set_ne (show w.heap.size ≠ w.heap.size + 1 from by first | omega | (simp only []; omega) | (simp; omega))]); exact keepsH4 (by repeat (first | assumption | exact Ext.refl _ | apply Ext.drew | apply Ext.alloc | (refine Ext.setCell ?_ (by first | omega | (simp only []; omega) | (simp; omega)) _) | (refine Ext.trans ?_ (by assumption)))) HS1.out)) ((first
      | (go_at_call 24; ((with_reducible refine (mk2_c p.n0 p.d0 _ (HG.out.ext (HX1.out.trans (by repeat (first | assumption | exact Ext.refl _ | apply Ext.drew | apply Ext.alloc | (refine Ext.setCell ?_ (by first | omega | (simp only []; omega) | (simp; omega)) _) | (refine Ext.trans ?_ (by assumption)))))) HP.out.a0 HP.out.b0 HP.out.c0).mono ?_); rintro e w2 ⟨rfl, e2⟩))
      | (go_at_call 24; ((with_reducible refine (mk2_c p.n1 p.d1 _ (HG.out.ext (HX1.out.trans (by repeat (first | assumption | exact Ext.refl _ | apply Ext.drew | apply Ext.alloc | (refine Ext.setCell ?_ (by first | omega | (simp only []; omega) | (simp; omega)) _) | (refine Ext.trans ?_ (by assumption)))))) HP.out.a1 HP.out.b1 HP.out.c1).mono ?_); rintro e w3 ⟨rfl, e3⟩; have RB1 := Blk.ext HB1_1.out (w' := w3) (by repeat (first | assumption | exact Ext.refl _ | apply Ext.drew | (refine Ext.trans ?_ (by assumption)))); have cB1_0 := RB1.cell 0 rfl; have fB1_0 := RB1.free 0; have cB1_1 := RB1.cell 1 rfl; have fB1_1 := RB1.free 1; have HRB1 := Lib.hid RB1; clear RB1))))
  refine wp_name (fun W => Ext w W ∧ Blk W (w.heap.size + 1) #[.string (qs (sm p.n0 p.d0)), .string (qs (sm p.n1 p.d1))] 62) ⟨(((HX1.out.trans (by repeat (first | assumption | exact Ext.refl _ | apply Ext.drew | apply Ext.alloc | (refine Ext.trans ?_ (by assumption))))).setCell (by have := HGEB1.out; first | omega | (simp only []; omega) | (simp; omega)) _).setCell (by have := HGEB1.out; first | omega | (simp only []; omega) | (simp; omega)) _), (((Blk.ext HB1_1.out (by repeat (first | assumption | exact Ext.refl _ | apply Ext.drew | apply Ext.alloc | (refine Ext.trans ?_ (by assumption))))).set 0 (.string (qs (sm p.n0 p.d0)))).set 1 (.string (qs (sm p.n1 p.d1))))⟩ ?_
  clear cB1_0 fB1_0 cB1_1 fB1_1
  rintro w4 ⟨e4, bB1_4⟩
  have HX4 := Lib.hid e4; have HB1_4 := Lib.hid bB1_4
  clear e4 bB1_4
  go_wp2_with fail
  have gB1_0 := HB1_4.out.cell 0 rfl
  have gB1_1 := HB1_4.out.cell 1 rfl
  refine bodyPost_ret (v := .agg #[.string (qs (sm p.n0 p.d0)), .string (qs (sm p.n1 p.d1))]) (by simp [results, Tryz.results33, go_sem, gB1_0, gB1_1]) rfl ⟨rfl, HX4.out⟩

theorem point_c (p : Pla) (w : World) (g : Gd w) (hp : PlaOk p) : Calls Tryz.prog 33 #[plc p] w (Ret w (pv (ppt p))) := point0_c p w g hp

theorem stoward_x (a b : P2) (q : Rat) {k m : Nat} (w : World) (g : Gd w) (ha : PB k a) (hb : PB k b) (hq : QB m q) (hk : k ≤ 400) (hm : m ≤ 400) : Calls Tryz.prog 47 #[pv a, pv b, .string (qs q)] w (Ret w (.agg #[.string (qs (a.x + q * (b.x - a.x))), .string (qs (a.y + q * (b.y - a.y)))])) := stoward_c a b q w g ha hb hq hk hm
theorem svalue_x (a b c : Rat) (p : P2) {k m : Nat} (w : World) (g : Gd w) (ha : QB k a) (hb : QB k b) (hc : QB k c) (hp : PB m p) (hk : k ≤ 400) (hm : m ≤ 400) : Calls Tryz.prog 42 #[.string (qs a), .string (qs b), .string (qs c), pv p] w (Ret w (.string (qs (a * p.x + b * p.y - c)))) := svalue_c a b c p w g ha hb hc hp hk hm
end Go.Proofs.YtglppcmegocphaaGreatDoor

namespace Go.Proofs.YtglppcmegocphaaGreatDoor
open Go Go.RowKit
theorem sq_nonneg' (x : Rat) : 0 ≤ x * x := by
  rcases Rat.le_total (a := 0) (b := x) with h | h
  · exact Rat.mul_nonneg h h
  · have := Rat.mul_nonneg (a := -x) (b := -x) (by grind) (by grind)
    grind
theorem sq_pos' {x : Rat} (h : x ≠ 0) : 0 < x * x := by
  have h1 := sq_nonneg' x
  have h2 : x * x ≠ 0 := by intro e; rcases Rat.mul_eq_zero.1 e with h' | h' <;> exact h h'
  grind
theorem num_sign_pos {q : Rat} (h : 0 < q) : q.num.sign = 1 := by
  have h1 := (Rat.lt_iff 0 q).1 h
  simp at h1
  exact Int.sign_eq_one_of_pos h1

end Go.Proofs.YtglppcmegocphaaGreatDoor

namespace Go.Proofs.YtglppcmegocphaaGreatDoor
open Go Go.RowKit
structure QD (n d : Nat) (q : Rat) : Prop where
  num : q.num.natAbs < 10 ^ n
  den : q.den < 10 ^ d
theorem QD.qb {n d k : Nat} {q : Rat} (h : QD n d q) (h1 : n ≤ k) (h2 : d ≤ k) : QB k q :=
  ⟨Nat.lt_of_lt_of_le h.num (Nat.pow_le_pow_right (by decide) h1), Nat.lt_of_lt_of_le h.den (Nat.pow_le_pow_right (by decide) h2)⟩
theorem QD.mk' {n d : Nat} {x : Int} {y : Nat} (h0 : y ≠ 0) (h1 : x.natAbs < 10 ^ n) (h2 : y < 10 ^ d) : QD n d (mkRat x y) :=
  ⟨Nat.lt_of_le_of_lt (mkRat_num_le _ _) h1, Nat.lt_of_le_of_lt (mkRat_den_le _ _ h0) h2⟩
theorem QD.neg {n d : Nat} {a : Rat} (ha : QD n d a) : QD n d (-a) := ⟨by rw [Rat.neg_num, Int.natAbs_neg]; exact ha.num, ha.den⟩
theorem QD.add {n d m e : Nat} {a b : Rat} (ha : QD n d a) (hb : QD m e b) : QD (max (n + e) (d + m) + 1) (d + e) (a + b) := by
  rw [Rat.add_def']
  refine QD.mk' (Nat.mul_ne_zero a.den_nz b.den_nz) ?_ (lt_mul_pow ha.den hb.den)
  refine Nat.lt_of_le_of_lt (Int.natAbs_add_le _ _) ?_
  rw [Int.natAbs_mul, Int.natAbs_mul, Int.natAbs_natCast, Int.natAbs_natCast, Nat.mul_comm b.num.natAbs]
  exact lt_add_pow (lt_mul_pow ha.num hb.den) (lt_mul_pow ha.den hb.num)
theorem QD.sub {n d m e : Nat} {a b : Rat} (ha : QD n d a) (hb : QD m e b) : QD (max (n + e) (d + m) + 1) (d + e) (a - b) := by
  rw [Rat.sub_eq_add_neg]; exact ha.add hb.neg
theorem QD.mul {n d m e : Nat} {a b : Rat} (ha : QD n d a) (hb : QD m e b) : QD (n + m) (d + e) (a * b) := by
  rw [Rat.mul_def']
  exact QD.mk' (Nat.mul_ne_zero a.den_nz b.den_nz) (by rw [Int.natAbs_mul]; exact lt_mul_pow ha.num hb.num) (lt_mul_pow ha.den hb.den)
theorem QD.inv {n d : Nat} {a : Rat} (ha : QD n d a) (hn : 1 ≤ n) : QD d n a⁻¹ := by
  constructor
  · rw [Rat.num_inv, Int.natAbs_mul, Int.natAbs_natCast]
    have : a.num.sign.natAbs ≤ 1 := by rw [Int.natAbs_sign]; split <;> omega
    exact Nat.lt_of_le_of_lt (Nat.mul_le_mul_right _ this) (by rw [Nat.one_mul]; exact ha.den)
  · rw [Rat.den_inv]
    split
    · exact Nat.one_lt_pow (by omega) (by decide)
    · exact ha.num
theorem QD.div {n d m e : Nat} {a b : Rat} (ha : QD n d a) (hb : QD m e b) (hm : 1 ≤ m) : QD (n + e) (d + m) (a / b) := by
  rw [Rat.div_def]; exact ha.mul (hb.inv hm)
structure VD (n d : Nat) (v : V3) : Prop where
  x : QD n d v.x
  y : QD n d v.y
  z : QD n d v.z
structure PD (n d : Nat) (v : P2) : Prop where
  x : QD n d v.x
  y : QD n d v.y
theorem sm_qd {n : Int} {d : Nat} (h0 : -32768 ≤ n) (h1 : n ≤ 32767) (h2 : d ≤ 255) : QD 5 3 (sm n d) := QD.mk' (by omega) (by omega) (by omega)
theorem PlaOk.pd {p : Pla} (h : PlaOk p) : PD 5 3 (ppt p) := ⟨sm_qd h.a0 h.b0 h.c0, sm_qd h.a1 h.b1 h.c1⟩

theorem num_sign_neg {q : Rat} (h : q < 0) : q.num.sign = -1 := by
  have h1 := (Rat.lt_iff q 0).1 h
  simp at h1
  exact Int.sign_eq_neg_one_of_neg h1
theorem VD.vb {n d k : Nat} {v : V3} (h : VD n d v) (h1 : n ≤ k) (h2 : d ≤ k) : VB k v := ⟨h.x.qb h1 h2, h.y.qb h1 h2, h.z.qb h1 h2⟩
end Go.Proofs.YtglppcmegocphaaGreatDoor

namespace Go.Proofs.YtglppcmegocphaaGreatDoor
open Go Go.RowKit
theorem tri (s : Rat) : (s < 0 ∧ s.num.sign = -1) ∨ (s = 0 ∧ s.num.sign = 0) ∨ (0 < s ∧ s.num.sign = 1) := by
  by_cases h : s < 0
  · exact Or.inl ⟨h, num_sign_neg h⟩
  · by_cases h2 : s = 0
    · exact Or.inr (Or.inl ⟨h2, by rw [h2]; rfl⟩)
    · exact Or.inr (Or.inr ⟨by grind, num_sign_pos (by grind)⟩)
theorem sign_prod (s t : Rat) : s.num.sign * t.num.sign ≤ 0 ↔ s * t ≤ 0 := by
  rcases tri s with ⟨h, e⟩ | ⟨h, e⟩ | ⟨h, e⟩ <;> rcases tri t with ⟨h', e'⟩ | ⟨h', e'⟩ | ⟨h', e'⟩ <;> rw [e, e']
  · have := Rat.mul_pos (a := -s) (b := -t) (by grind) (by grind)
    constructor
    · intro h; exact absurd h (by decide)
    · intro h; exfalso; grind
  · subst h'; simp
  · have := Rat.mul_pos (a := -s) (b := t) (by grind) h'
    constructor
    · intro _; grind
    · intro _; decide
  · subst h; simp
  · subst h; simp
  · subst h; simp
  · have := Rat.mul_pos (a := s) (b := -t) h (by grind)
    constructor
    · intro _; grind
    · intro _; decide
  · subst h'; simp
  · have := Rat.mul_pos h h'
    constructor
    · intro h; exact absurd h (by decide)
    · intro h; exfalso; grind
theorem inq_eq (a b x : Rat) : inq a b x = decide ((x - a) * (x - b) ≤ 0) := by
  unfold inq
  exact decide_eq_decide.2 (sign_prod _ _)
theorem sinside_01 (x : Rat) {k : Nat} (w : World) (g : Gd w) (hx : QB k x) (hk : k ≤ 1000) (h1 : 1 ≤ k) : Calls Tryz.prog 46 #[.string ⟨#[48]⟩, .string ⟨#[49]⟩, .string (qs x)] w (Ret w (.bool (inq 0 1 x))) := by
  have := sinside_c 0 1 x w g (((⟨by decide, by decide⟩ : QB 1 0)).mono h1) (((⟨by decide, by decide⟩ : QB 1 1)).mono h1) hx hk
  rwa [qs_zero, qs_one] at this
end Go.Proofs.YtglppcmegocphaaGreatDoor

namespace Go.Proofs.YtglppcmegocphaaGreatDoor
open Go Go.RowKit
theorem p2_ext {a b : P2} (h1 : (qs a.x).toList = (qs b.x).toList) (h2 : (qs a.y).toList = (qs b.y).toList) : a = b := by
  have e : ∀ {x y : Rat}, (qs x).toList = (qs y).toList → x = y := fun {x y} h => by rw [qs_toList, qs_toList] at h; exact ql_inj h
  cases a; cases b
  simp only at h1 h2
  rw [e h1, e h2]
def lthru (a b : P2) : V3 := ⟨a.y - b.y, b.x - a.x, (a.y - b.y) * a.x + (b.x - a.x) * a.y⟩
structure LDd (L : V3) : Prop where
  x : QD 9 6 L.x
  y : QD 9 6 L.y
  z : QD 24 18 L.z
theorem lthru_d {a b : P2} (ha : PD 5 3 a) (hb : PD 5 3 b) : LDd (lthru a b) := ⟨ha.y.sub hb.y, hb.x.sub ha.x, ((ha.y.sub hb.y).mul ha.x).add ((hb.x.sub ha.x).mul ha.y)⟩
theorem LDd.vb {L : V3} (h : LDd L) : VB 24 L := ⟨h.x.qb (by decide) (by decide), h.y.qb (by decide) (by decide), h.z.qb (by decide) (by decide)⟩
theorem lthru_ne {a b : P2} (h : a ≠ b) : ¬ ((lthru a b).x = 0 ∧ (lthru a b).y = 0) := by
  rintro ⟨h1, h2⟩
  apply h
  cases a; cases b
  simp only [lthru] at h1 h2
  simp only [P2.mk.injEq]
  constructor <;> grind

theorem thr_s (a : P2) (w : World) (g : Gd w) (ha : PB 5 a) : Calls Tryz.prog 40 #[pv a, pv a] w (Ret w (.tuple #[.agg #[.string ⟨#[]⟩, .string ⟨#[]⟩, .string ⟨#[]⟩], .int .i64 17])) := vThrough_same a w g (ha.mono (by decide))
theorem thr_n (a b : P2) (L : V3) (w : World) (g : Gd w) (hL : lthru a b = L) (h : a ≠ b) (ha : PB 5 a) (hb : PB 5 b) (hl : VB 24 L) : Calls Tryz.prog 40 #[pv a, pv b] w (Ret w (.tuple #[vv L, .int .i64 0])) := by
  subst hL
  exact vThrough_ok a b w g (ha.mono (by decide)) (hb.mono (by decide)) (hl.mono (by decide)) h
theorem rsub_x (a b : P2) (L : V3) (w : World) (g : Gd w) (hL : lthru a b = L) (ha : PB 5 a) (hb : PB 5 b) : Calls Tryz.prog 41 #[.string (qs a.y), .string (qs b.y)] w (Ret w (.string (qs L.x))) := by
  subst hL; exact fqsub_c a.y b.y w g ha.y hb.y (by decide) (by decide)
theorem rsub_y (a b : P2) (L : V3) (w : World) (g : Gd w) (hL : lthru a b = L) (ha : PB 5 a) (hb : PB 5 b) : Calls Tryz.prog 41 #[.string (qs b.x), .string (qs a.x)] w (Ret w (.string (qs L.y))) := by
  subst hL; exact fqsub_c b.x a.x w g hb.x ha.x (by decide) (by decide)
theorem val_z (a b : P2) (L : V3) (w : World) (g : Gd w) (hL : lthru a b = L) (ha : PB 5 a) (hl : VB 24 L) : Calls Tryz.prog 42 #[.string (qs L.x), .string (qs L.y), .string ⟨#[48]⟩, pv a] w (Ret w (.string (qs L.z))) := by
  have := svalue_x L.x L.y 0 a w g hl.x hl.y ((⟨by decide, by decide⟩ : QB 1 0).mono (by decide)) ha (by decide) (by decide)
  rwa [qs_zero, show L.x * a.x + L.y * a.y - 0 = L.z by subst hL; simp only [lthru]; grind] at this
theorem val_u (L : V3) (c : P2) (U : Rat) {k m : Nat} (w : World) (g : Gd w) (hU : L.x * c.x + L.y * c.y - L.z = U) (hl : VB k L) (hc : PB m c) (hk : k ≤ 400) (hm : m ≤ 400) : Calls Tryz.prog 42 #[.string (qs L.x), .string (qs L.y), .string (qs L.z), pv c] w (Ret w (.string (qs U))) := by
  rw [← hU]; exact svalue_x L.x L.y L.z c w g hl.x hl.y hl.z hc hk hm
theorem val_0 (L : V3) (c : P2) {k m : Nat} (w : World) (g : Gd w) (hU : L.x * c.x + L.y * c.y - L.z = 0) (hl : VB k L) (hc : PB m c) (hk : k ≤ 400) (hm : m ≤ 400) : Calls Tryz.prog 42 #[.string (qs L.x), .string (qs L.y), .string (qs L.z), pv c] w (Ret w (.string ⟨#[48]⟩)) := by
  have := val_u L c 0 w g hU hl hc hk hm
  rwa [qs_zero] at this
theorem sign_0 (w : World) : Calls Tryz.prog 20 #[.string ⟨#[48]⟩] w fun e w' => e = .returned (.int .i64 0) ∧ w = w' := by
  have := fqsign_c 0 w
  rwa [qs_zero] at this

def lmeet (L M : V3) : P2 := ⟨(L.z * M.y - L.y * M.z) / (L.x * M.y - L.y * M.x), (L.x * M.z - L.z * M.x) / (L.x * M.y - L.y * M.x)⟩
theorem lmeet_b {L M : V3} (hl : LDd L) (hm : LDd M) : PB 100 (lmeet L M) :=
  ⟨(((hl.z.mul hm.y).sub (hl.y.mul hm.z)).div ((hl.x.mul hm.y).sub (hl.y.mul hm.x)) (by decide)).qb (by decide) (by decide), (((hl.x.mul hm.z).sub (hl.z.mul hm.x)).div ((hl.x.mul hm.y).sub (hl.y.mul hm.x)) (by decide)).qb (by decide) (by decide)⟩
theorem lmeet_on {L M : V3} {P : P2} (hP : lmeet L M = P) (h : L.x * M.y - L.y * M.x ≠ 0) : L.x * P.x + L.y * P.y - L.z = 0 ∧ M.x * P.x + M.y * P.y - M.z = 0 := by
  have e1 : P.x * (L.x * M.y - L.y * M.x) = L.z * M.y - L.y * M.z := by rw [← hP]; exact Rat.div_mul_cancel h
  have e2 : P.y * (L.x * M.y - L.y * M.x) = L.x * M.z - L.z * M.x := by rw [← hP]; exact Rat.div_mul_cancel h
  constructor
  · have : (L.x * P.x + L.y * P.y - L.z) * (L.x * M.y - L.y * M.x) = 0 := by grind
    exact (Rat.mul_eq_zero.1 this).resolve_right h
  · have : (M.x * P.x + M.y * P.y - M.z) * (L.x * M.y - L.y * M.x) = 0 := by grind
    exact (Rat.mul_eq_zero.1 this).resolve_right h
theorem meet_n (L M : V3) (w : World) (g : Gd w) (hl : VB 24 L) (hm : VB 24 M) (hz : ¬ (L.x = 0 ∧ L.y = 0)) (hy : ¬ (M.x = 0 ∧ M.y = 0)) (h : L.x * M.y - L.y * M.x = 0) :
    Calls Tryz.prog 43 #[vv L, vv M] w (Ret w (.tuple #[.agg #[.string ⟨#[]⟩, .string ⟨#[]⟩], .bool false, .int .i64 0])) := vMeet_none L M w g (hl.mono (by decide)) (hm.mono (by decide)) hz hy h
theorem meet_y (L M : V3) (P : P2) (w : World) (g : Gd w) (hP : lmeet L M = P) (hp : PB 100 P) (hl : VB 24 L) (hm : VB 24 M) (hz : ¬ (L.x = 0 ∧ L.y = 0)) (hy : ¬ (M.x = 0 ∧ M.y = 0)) (h : L.x * M.y - L.y * M.x ≠ 0) :
    Calls Tryz.prog 43 #[vv L, vv M] w (Ret w (.tuple #[pv P, .bool true, .int .i64 0])) := by
  subst hP
  exact vMeet_ok L M w g (hl.mono (by decide)) (hm.mono (by decide)) hz hy h (hp.mono (by decide))

def lex (L : V3) (c : P2) : Rat := L.x * c.x + L.y * c.y - L.z
theorem lex_d {L : V3} {c : P2} (hl : LDd L) (hc : PD 5 3 c) : QD 43 36 (lex L c) := ((hl.x.mul hc.x).add (hl.y.mul hc.y)).sub hl.z
theorem cutk_b {U V : Rat} (hu : QD 43 36 U) (hv : QD 43 36 V) : QB 120 (U / (U - V)) := (hu.div (hu.sub hv) (by decide)).qb (by decide) (by decide)
theorem lcut_s (L : V3) (c d : P2) (w : World) (g : Gd w) (hl : VB 24 L) (hc : PB 5 c) (hd : PB 5 d) (hz : ¬ (L.x = 0 ∧ L.y = 0)) (h : lex L c = lex L d) :
    Calls Tryz.prog 45 #[vv L, pv c, pv d] w (Ret w (.tuple #[.string ⟨#[]⟩, .bool false, .int .i64 0])) := vCut_same L c d w g (hl.mono (by decide)) (hc.mono (by decide)) (hd.mono (by decide)) hz h
theorem lcut_n (L : V3) (c d : P2) (w : World) (g : Gd w) (hl : VB 24 L) (hc : PB 5 c) (hd : PB 5 d) (hz : ¬ (L.x = 0 ∧ L.y = 0)) (h : lex L c ≠ lex L d) (h1 : 0 < (lex L c).num.sign * (lex L d).num.sign) :
    Calls Tryz.prog 45 #[vv L, pv c, pv d] w (Ret w (.tuple #[.string ⟨#[]⟩, .bool false, .int .i64 0])) := vCut_none L c d w g (hl.mono (by decide)) (hc.mono (by decide)) (hd.mono (by decide)) hz h h1
theorem lcut_k (L : V3) (c d : P2) (U V K : Rat) (w : World) (g : Gd w) (hU : lex L c = U) (hV : lex L d = V) (hK : U / (U - V) = K) (hl : VB 24 L) (hc : PB 5 c) (hd : PB 5 d) (hz : ¬ (L.x = 0 ∧ L.y = 0)) (h : U ≠ V) (h1 : U.num.sign * V.num.sign ≤ 0) (hk : QB 120 K) :
    Calls Tryz.prog 45 #[vv L, pv c, pv d] w (Ret w (.tuple #[.string (qs K), .bool true, .int .i64 0])) := by
  subst hK; subst hU; subst hV
  exact vCut_ok L c d w g (hl.mono (by decide)) (hc.mono (by decide)) (hd.mono (by decide)) hz h h1 (hk.mono (by decide))
theorem lcut_in {U V K : Rat} (hK : U / (U - V) = K) (h : U ≠ V) (h1 : U.num.sign * V.num.sign ≤ 0) : inq 0 1 K = true := by
  rw [inq_eq, decide_eq_true_eq]
  have h2 := (sign_prod U V).1 h1
  have h3 : U - V ≠ 0 := fun e => h (by grind)
  have e1 : K * (U - V) = U := by rw [← hK]; exact Rat.div_mul_cancel h3
  have hp := sq_pos' h3
  have e2 : ((K - 0) * (K - 1)) * ((U - V) * (U - V)) = U * V := by grind
  rcases Rat.le_total (a := (K - 0) * (K - 1)) (b := 0) with h4 | h4
  · exact h4
  · by_cases h5 : (K - 0) * (K - 1) = 0
    · rw [h5]; grind
    · have := Rat.mul_pos (a := (K - 0) * (K - 1)) (b := (U - V) * (U - V)) (by grind) hp
      exfalso; grind
theorem lcut_at {L : V3} {c d : P2} {U V K : Rat} (hU : lex L c = U) (hV : lex L d = V) (hK : U / (U - V) = K) (h : U ≠ V) : L.x * (c.x + K * (d.x - c.x)) + L.y * (c.y + K * (d.y - c.y)) - L.z = 0 := by
  have h3 : U - V ≠ 0 := fun e => h (by grind)
  have e1 : K * (U - V) = U := by rw [← hK]; exact Rat.div_mul_cancel h3
  unfold lex at hU hV
  grind
theorem sin_t (x : Rat) {k : Nat} (w : World) (g : Gd w) (hx : QB k x) (hk : k ≤ 1000) (h1 : 1 ≤ k) (h : inq 0 1 x = true) : Calls Tryz.prog 46 #[.string ⟨#[48]⟩, .string ⟨#[49]⟩, .string (qs x)] w (Ret w (.bool true)) := by
  rw [← h]; exact sinside_01 x w g hx hk h1
theorem sgn_bd (U V : Rat) : -1 ≤ U.num.sign * V.num.sign ∧ U.num.sign * V.num.sign ≤ 1 := by
  rcases tri U with ⟨_, e⟩ | ⟨_, e⟩ | ⟨_, e⟩ <;> rcases tri V with ⟨_, e'⟩ | ⟨_, e'⟩ | ⟨_, e'⟩ <;> rw [e, e'] <;> decide
theorem sgn_sq {U : Rat} (h : U ≠ 0) : 0 < U.num.sign * U.num.sign := by
  rcases tri U with ⟨_, e⟩ | ⟨h0, e⟩ | ⟨_, e⟩
  · rw [e]; decide
  · exact absurd h0 h
  · rw [e]; decide
end Go.Proofs.YtglppcmegocphaaGreatDoor
