/- Part 25 of the proof: B7, V2, V3, L2. -/
import Derived.Test.YtglppcmegocphaaGreatDoorQU1
import Derived.Test.YtglppcmegocphaaGreatDoorQU2
import Derived.Test.YtglppcmegocphaaGreatDoorQU3
import Derived.Test.YtglppcmegocphaaGreatDoorQU4
import Derived.Test.YtglppcmegocphaaGreatDoorQU5
import Derived.Test.YtglppcmegocphaaGreatDoorQU6
import Derived.Test.YtglppcmegocphaaGreatDoorQU7
import Derived.Test.YtglppcmegocphaaGreatDoorQU8
import Derived.Test.YtglppcmegocphaaGreatDoorQU9
import Derived.Test.YtglppcmegocphaaGreatDoorQU10
import Derived.Test.YtglppcmegocphaaGreatDoorQU11
import Derived.Test.YtglppcmegocphaaGreatDoorQU12
import Derived.Test.YtglppcmegocphaaGreatDoorQU13
import Derived.Test.YtglppcmegocphaaGreatDoorQU14
import Derived.Test.YtglppcmegocphaaGreatDoorQU15
import Derived.Test.YtglppcmegocphaaGreatDoorQU16
import Derived.Test.YtglppcmegocphaaGreatDoorQU17
import Derived.Test.YtglppcmegocphaaGreatDoorQU18
import Derived.Test.YtglppcmegocphaaGreatDoorQU19
import Derived.Test.YtglppcmegocphaaGreatDoorQU20
import Derived.Test.YtglppcmegocphaaGreatDoorQU21
import Derived.Test.YtglppcmegocphaaGreatDoorQU22
import Derived.Test.YtglppcmegocphaaGreatDoorQU23
import Derived.Test.YtglppcmegocphaaGreatDoorQU24
namespace Go.Proofs.YtglppcmegocphaaGreatDoor
open Go Go.RowKit
theorem sign_cases (n : Int) : n.sign = -1 ∨ n.sign = 0 ∨ n.sign = 1 := by
  rcases Int.lt_trichotomy n 0 with h | h | h
  · exact Or.inl (Int.sign_eq_neg_one_of_neg h)
  · subst h; exact Or.inr (Or.inl rfl)
  · exact Or.inr (Or.inr (Int.sign_eq_one_of_pos h))

end Go.Proofs.YtglppcmegocphaaGreatDoor

namespace Go.Proofs.YtglppcmegocphaaGreatDoor
open Go Go.RowKit
theorem z3_true {x y z : Rat} : z3 x y z = true ↔ x = 0 ∧ y = 0 ∧ z = 0 := by unfold z3; exact decide_eq_true_iff
theorem vzero_b (x y z : Rat) (w : World) : Calls Tryz.prog 68 #[.agg #[.string (qs x), .string (qs y), .string (qs z)]] w (Ret w (.bool (z3 x y z))) := vzero_c ⟨x, y, z⟩ w
end Go.Proofs.YtglppcmegocphaaGreatDoor

namespace Go.Proofs.YtglppcmegocphaaGreatDoor
open Go Go.RowKit
set_option maxRecDepth 100000 in
set_option maxHeartbeats 2000000 in
theorem vDot_ok (a b : V3) (w : World) (g : Gd w) (ha : VB 200 a) (hb : VB 200 b) (hr : QB 200 (a.x * b.x + a.y * b.y + a.z * b.z)) : Calls Tryz.prog 30 #[.agg #[.string (qs a.x), .string (qs a.y), .string (qs a.z)], .agg #[.string (qs b.x), .string (qs b.y), .string (qs b.z)]] w (Ret w (.tuple #[.string (qs (a.x * b.x + a.y * b.y + a.z * b.z)), .int .i64 0])) := by
  have HA := Lib.hid ha
  have HB := Lib.hid hb
  have HR := Lib.hid hr
  have HG := Lib.hid g
  clear ha hb hr g
  go_enter Tryz.func30, Tryz.ntmps30
  go_wp2_with fail
  refine (vectors2_ok a b (w.heap.size + 1 + 1) _ (HG.out.ext ((((Ext.refl w).alloc _).alloc _).alloc _)) (HA.out.mono (by omega)) (HB.out.mono (by omega)) (Blk.new' (w := _) (cs := #[.string (qs a.x), .string (qs a.y), .string (qs a.z), .string (qs b.x), .string (qs b.y), .string (qs b.z)]) (t := 30) (by first | rfl | (simp only [World.size_alloc]; done) | (simp only [World.size_alloc]; omega) | simp))).mono ?_; rintro e w1 ⟨rfl, e1⟩
  have HX1 : Hid (Ext w w1) := Lib.hid (((((Ext.refl w).alloc _).alloc _).alloc _).trans e1)
  have HB0_1 : Hid (Blk w1 (w.heap.size) #[.string (qs a.x), .string (qs a.y), .string (qs a.z)] 30) := Lib.hid (Blk.ext (((Blk.new' (w := _) (cs := #[.string (qs a.x), .string (qs a.y), .string (qs a.z)]) (t := 30) (by first | rfl | (simp only [World.size_alloc]; done) | (simp only [World.size_alloc]; omega) | simp)).alloc _).alloc _) e1)
  have HB1_1 : Hid (Blk w1 (w.heap.size + 1) #[.string (qs b.x), .string (qs b.y), .string (qs b.z)] 30) := Lib.hid (Blk.ext ((Blk.new' (w := _) (cs := #[.string (qs b.x), .string (qs b.y), .string (qs b.z)]) (t := 30) (by first | rfl | (simp only [World.size_alloc]; done) | (simp only [World.size_alloc]; omega) | simp)).alloc _) e1)
  have HB2_1 : Hid (Blk w1 (w.heap.size + 1 + 1) #[.string (qs a.x), .string (qs a.y), .string (qs a.z), .string (qs b.x), .string (qs b.y), .string (qs b.z)] 30) := Lib.hid (Blk.ext (Blk.new' (w := _) (cs := #[.string (qs a.x), .string (qs a.y), .string (qs a.z), .string (qs b.x), .string (qs b.y), .string (qs b.z)]) (t := 30) (by first | rfl | (simp only [World.size_alloc]; done) | (simp only [World.size_alloc]; omega) | simp)) e1)
  have HGEB0 : Hid (w.heap.size ≤ w.heap.size) := Lib.hid (by first | omega | (simp only []; omega) | (simp; omega))
  have HGEB1 : Hid (w.heap.size ≤ w.heap.size + 1) := Lib.hid (by first | omega | (simp only []; omega) | (simp; omega))
  have HGEB2 : Hid (w.heap.size ≤ w.heap.size + 1 + 1) := Lib.hid (by first | omega | (simp only []; omega) | (simp; omega))
  clear e1
  have c0_0 := HB0_1.out.cell 0 rfl
  have c0_1 := HB0_1.out.cell 1 rfl
  have c0_2 := HB0_1.out.cell 2 rfl
  have c1_0 := HB1_1.out.cell 0 rfl
  have c1_1 := HB1_1.out.cell 1 rfl
  have c1_2 := HB1_1.out.cell 2 rfl
  go_wp2_with fail
  refine (vdot0_c a b _ (HG.out.ext HX1.out) HA.out HB.out (by omega) (by omega)).mono ?_; rintro e w2 ⟨rfl, e2⟩
  have HX2 : Hid (Ext w w2) := Lib.hid (HX1.out.trans e2)
  clear e2 c0_0 c0_1 c0_2 c1_0 c1_1 c1_2
  go_wp2_with fail
  refine (number_no (a.x * b.x + a.y * b.y + a.z * b.z) _ HR.out).mono ?_; rintro e w3 ⟨rfl, e3⟩
  have HX3 : Hid (Ext w w3) := Lib.hid (HX2.out.trans e3)
  clear e3
  go_wp2
  go_ret2
  exact ⟨rfl, HX3.out⟩

set_option maxRecDepth 100000 in
set_option maxHeartbeats 2000000 in
theorem vIsZero_ok (a : V3) (w : World) (g : Gd w) (ha : VB 200 a) : Calls Tryz.prog 32 #[.agg #[.string (qs a.x), .string (qs a.y), .string (qs a.z)]] w (Ret w (.tuple #[.bool (z3 a.x a.y a.z), .int .i64 0])) := by
  have HA := Lib.hid ha
  have HG := Lib.hid g
  clear ha g
  go_enter Tryz.func32, Tryz.ntmps32
  go_wp2_with fail
  refine (vectors1_ok a (w.heap.size + 1) _ (HG.out.ext (((Ext.refl w).alloc _).alloc _)) (HA.out.mono (by omega)) (Blk.new' (w := _) (cs := #[.string (qs a.x), .string (qs a.y), .string (qs a.z)]) (t := 30) (by first | rfl | (simp only [World.size_alloc]; done) | (simp only [World.size_alloc]; omega) | simp))).mono ?_; rintro e w1 ⟨rfl, e1⟩
  have HX1 : Hid (Ext w w1) := Lib.hid ((((Ext.refl w).alloc _).alloc _).trans e1)
  have HB0_1 : Hid (Blk w1 (w.heap.size) #[.string (qs a.x), .string (qs a.y), .string (qs a.z)] 30) := Lib.hid (Blk.ext ((Blk.new' (w := _) (cs := #[.string (qs a.x), .string (qs a.y), .string (qs a.z)]) (t := 30) (by first | rfl | (simp only [World.size_alloc]; done) | (simp only [World.size_alloc]; omega) | simp)).alloc _) e1)
  have HB1_1 : Hid (Blk w1 (w.heap.size + 1) #[.string (qs a.x), .string (qs a.y), .string (qs a.z)] 30) := Lib.hid (Blk.ext (Blk.new' (w := _) (cs := #[.string (qs a.x), .string (qs a.y), .string (qs a.z)]) (t := 30) (by first | rfl | (simp only [World.size_alloc]; done) | (simp only [World.size_alloc]; omega) | simp)) e1)
  have HGEB0 : Hid (w.heap.size ≤ w.heap.size) := Lib.hid (by first | omega | (simp only []; omega) | (simp; omega))
  have HGEB1 : Hid (w.heap.size ≤ w.heap.size + 1) := Lib.hid (by first | omega | (simp only []; omega) | (simp; omega))
  clear e1
  have c0_0 := HB0_1.out.cell 0 rfl
  have c0_1 := HB0_1.out.cell 1 rfl
  have c0_2 := HB0_1.out.cell 2 rfl
  go_wp2_with fail
  refine (vzero_b a.x a.y a.z _).mono ?_; rintro e w2 ⟨rfl, e2⟩
  have HX2 : Hid (Ext w w2) := Lib.hid (HX1.out.trans e2)
  clear e2 c0_0 c0_1 c0_2
  go_wp2
  go_ret2
  exact ⟨rfl, HX2.out⟩

end Go.Proofs.YtglppcmegocphaaGreatDoor

namespace Go.Proofs.YtglppcmegocphaaGreatDoor
open Go Go.RowKit
theorem fqofD (n D : Int) (d : Nat) (w : World) (g : Gd w) (hD : D = (d : Int)) (hd : d ≠ 0) (h0 : -32768 ≤ n) (h1 : n ≤ 32767) (h2 : d ≤ 256) : Calls Tryz.prog 22 #[.int .i64 n, .int .i64 D] w (Ret w (.string (qs (mkRat n d)))) := by
  subst hD; exact fqof_c n d w g hd (by omega) (by omega) (by omega)
abbrev plc (p : Pla) : Value := .agg #[.int .i16 p.n0, .int .u8 (p.d0 : Int), .int .i16 p.n1, .int .u8 (p.d1 : Int), .int .i16 p.n2, .int .u8 (p.d2 : Int)]
set_option maxRecDepth 100000 in
set_option maxHeartbeats 2000000 in
theorem mk2_c (n : Int) (d : Nat) (w : World) (g : Gd w) (h0 : -32768 ≤ n) (h1 : n ≤ 32767) (h2 : d ≤ 255) : Calls Tryz.prog 24 #[.agg #[.int .i16 n, .int .u8 (d : Int)]] w (Ret w (.string (qs (sm n d)))) := by
  have HG := Lib.hid g
  clear g
  go_enter Tryz.func24, Tryz.ntmps24
  go_wp2_with fail
  refine (fqofD n _ (1 + d) _ (HG.out.ext ((Ext.refl w).alloc _)) (by simp) (by omega) h0 h1 (by omega)).mono ?_; rintro e w1 ⟨rfl, e1⟩
  have HX1 : Hid (Ext w w1) := Lib.hid (((Ext.refl w).alloc _).trans e1)
  clear e1
  go_wp2
  go_ret
  exact ⟨rfl, HX1.out⟩

set_option maxRecDepth 100000 in
set_option maxHeartbeats 2000000 in
theorem make0_c (p : Pla) (w : World) (g : Gd w) (hp : PlaOk p) : Calls Tryz.prog 14 #[.agg #[.int .i16 p.n0, .int .u8 (p.d0 : Int), .int .i16 p.n1, .int .u8 (p.d1 : Int), .int .i16 p.n2, .int .u8 (p.d2 : Int)]] w (Ret w (.agg #[.string (qs (sm p.n0 p.d0)), .string (qs (sm p.n1 p.d1)), .string (qs (sm p.n2 p.d2))])) := by
  have HP := Lib.hid hp
  have HG := Lib.hid g
  clear hp g
  go_enter Tryz.func14, Tryz.ntmps14
  go_wp2_with fail
  refine wp_name (fun W => Ext w W ∧ Blk W (w.heap.size) #[.int .i16 p.n0, .int .u8 (p.d0 : Int), .int .i16 p.n1, .int .u8 (p.d1 : Int), .int .i16 p.n2, .int .u8 (p.d2 : Int)] 26 ∧ Blk W (w.heap.size + 1) #[.string ⟨#[]⟩, .string ⟨#[]⟩, .string ⟨#[]⟩] 30) ⟨(((Ext.refl w).alloc _).alloc _), ((Blk.new' (w := _) (cs := #[.int .i16 p.n0, .int .u8 (p.d0 : Int), .int .i16 p.n1, .int .u8 (p.d1 : Int), .int .i16 p.n2, .int .u8 (p.d2 : Int)]) (t := 26) (by first | rfl | (simp only [World.size_alloc]; done) | (simp only [World.size_alloc]; omega) | simp)).alloc _), (Blk.new' (w := _) (cs := #[.string ⟨#[]⟩, .string ⟨#[]⟩, .string ⟨#[]⟩]) (t := 30) (by first | rfl | (simp only [World.size_alloc]; done) | (simp only [World.size_alloc]; omega) | simp))⟩ ?_
  rintro w1 ⟨e1, bB0_1, bB1_1⟩
  have HX1 := Lib.hid e1; have HB0_1 := Lib.hid bB0_1; have HB1_1 := Lib.hid bB1_1
  have HGEB0 : Hid (w.heap.size ≤ w.heap.size) := Lib.hid (by first | omega | (simp only []; omega) | (simp; omega))
  have HGEB1 : Hid (w.heap.size ≤ w.heap.size + 1) := Lib.hid (by first | omega | (simp only []; omega) | (simp; omega))
  clear e1 bB0_1 bB1_1
  have hS1 : w1.cell? ⟨w.heap.size, 0, none⟩ = some (.int .i16 p.n0) ∧ w1.cell? ⟨w.heap.size, 1, none⟩ = some (.int .u8 (p.d0 : Int)) ∧ w1.cell? ⟨w.heap.size, 2, none⟩ = some (.int .i16 p.n1) ∧ w1.cell? ⟨w.heap.size, 3, none⟩ = some (.int .u8 (p.d1 : Int)) ∧ w1.cell? ⟨w.heap.size, 4, none⟩ = some (.int .i16 p.n2) ∧ w1.cell? ⟨w.heap.size, 5, none⟩ = some (.int .u8 (p.d2 : Int)) := ⟨HB0_1.out.cell 0 rfl, HB0_1.out.cell 1 rfl, HB0_1.out.cell 2 rfl, HB0_1.out.cell 3 rfl, HB0_1.out.cell 4 rfl, HB0_1.out.cell 5 rfl⟩
  have HS1 := Lib.hid hS1; clear hS1
  go_region_held3 (fun w' => w'.cell? ⟨w.heap.size, 0, none⟩ = some (.int .i16 p.n0) ∧ w'.cell? ⟨w.heap.size, 1, none⟩ = some (.int .u8 (p.d0 : Int)) ∧ w'.cell? ⟨w.heap.size, 2, none⟩ = some (.int .i16 p.n1) ∧ w'.cell? ⟨w.heap.size, 3, none⟩ = some (.int .u8 (p.d1 : Int)) ∧ w'.cell? ⟨w.heap.size, 4, none⟩ = some (.int .i16 p.n2) ∧ w'.cell? ⟨w.heap.size, 5, none⟩ = some (.int .u8 (p.d2 : Int)))
    (((try simp only [cell_set_ne (show w.heap.size ≠ w.heap.size + 1 from by first | omega | (simp only []; omega) | (simp; omega))]); exact keepsH6 (by repeat (first | assumption | exact Ext.refl _ | apply Ext.drew | apply Ext.alloc | (refine Ext.setCell ?_ (by first | omega | (simp only []; omega) | (simp; omega)) _) | (refine Ext.trans ?_ (by assumption)))) HS1.out)) ((first
      | (go_at_call 24; ((with_reducible refine (mk2_c p.n0 p.d0 _ (HG.out.ext (HX1.out.trans (by repeat (first | assumption | exact Ext.refl _ | apply Ext.drew | apply Ext.alloc | (refine Ext.setCell ?_ (by first | omega | (simp only []; omega) | (simp; omega)) _) | (refine Ext.trans ?_ (by assumption)))))) HP.out.a0 HP.out.b0 HP.out.c0).mono ?_); rintro e w2 ⟨rfl, e2⟩))
      | (go_at_call 24; ((with_reducible refine (mk2_c p.n1 p.d1 _ (HG.out.ext (HX1.out.trans (by repeat (first | assumption | exact Ext.refl _ | apply Ext.drew | apply Ext.alloc | (refine Ext.setCell ?_ (by first | omega | (simp only []; omega) | (simp; omega)) _) | (refine Ext.trans ?_ (by assumption)))))) HP.out.a1 HP.out.b1 HP.out.c1).mono ?_); rintro e w3 ⟨rfl, e3⟩))
      | (go_at_call 24; ((with_reducible refine (mk2_c p.n2 p.d2 _ (HG.out.ext (HX1.out.trans (by repeat (first | assumption | exact Ext.refl _ | apply Ext.drew | apply Ext.alloc | (refine Ext.setCell ?_ (by first | omega | (simp only []; omega) | (simp; omega)) _) | (refine Ext.trans ?_ (by assumption)))))) HP.out.a2 HP.out.b2 HP.out.c2).mono ?_); rintro e w4 ⟨rfl, e4⟩; have RB1 := Blk.ext HB1_1.out (w' := w4) (by repeat (first | assumption | exact Ext.refl _ | apply Ext.drew | (refine Ext.trans ?_ (by assumption)))); have cB1_0 := RB1.cell 0 rfl; have fB1_0 := RB1.free 0; have cB1_1 := RB1.cell 1 rfl; have fB1_1 := RB1.free 1; have cB1_2 := RB1.cell 2 rfl; have fB1_2 := RB1.free 2; have HRB1 := Lib.hid RB1; clear RB1))))
  refine wp_name (fun W => Ext w W ∧ Blk W (w.heap.size + 1) #[.string (qs (sm p.n0 p.d0)), .string (qs (sm p.n1 p.d1)), .string (qs (sm p.n2 p.d2))] 30) ⟨((((HX1.out.trans (by repeat (first | assumption | exact Ext.refl _ | apply Ext.drew | apply Ext.alloc | (refine Ext.trans ?_ (by assumption))))).setCell (by have := HGEB1.out; first | omega | (simp only []; omega) | (simp; omega)) _).setCell (by have := HGEB1.out; first | omega | (simp only []; omega) | (simp; omega)) _).setCell (by have := HGEB1.out; first | omega | (simp only []; omega) | (simp; omega)) _), ((((Blk.ext HB1_1.out (by repeat (first | assumption | exact Ext.refl _ | apply Ext.drew | apply Ext.alloc | (refine Ext.trans ?_ (by assumption))))).set 0 (.string (qs (sm p.n0 p.d0)))).set 1 (.string (qs (sm p.n1 p.d1)))).set 2 (.string (qs (sm p.n2 p.d2))))⟩ ?_
  clear cB1_0 fB1_0 cB1_1 fB1_1 cB1_2 fB1_2
  rintro w5 ⟨e5, bB1_5⟩
  have HX5 := Lib.hid e5; have HB1_5 := Lib.hid bB1_5
  clear e5 bB1_5
  go_wp2_with fail
  have gB1_0 := HB1_5.out.cell 0 rfl
  have gB1_1 := HB1_5.out.cell 1 rfl
  have gB1_2 := HB1_5.out.cell 2 rfl
  refine bodyPost_ret (v := .agg #[.string (qs (sm p.n0 p.d0)), .string (qs (sm p.n1 p.d1)), .string (qs (sm p.n2 p.d2))]) (by simp [results, Tryz.results14, go_sem, gB1_0, gB1_1, gB1_2]) rfl ⟨rfl, HX5.out⟩

set_option maxRecDepth 100000 in
set_option maxHeartbeats 2000000 in
theorem point0_c (p : Pla) (w : World) (g : Gd w) (hp : PlaOk p) : Calls Tryz.prog 33 #[.agg #[.int .i16 p.n0, .int .u8 (p.d0 : Int), .int .i16 p.n1, .int .u8 (p.d1 : Int), .int .i16 p.n2, .int .u8 (p.d2 : Int)]] w (Ret w (.agg #[.string (qs (sm p.n0 p.d0)), .string (qs (sm p.n1 p.d1))])) := by
  have HP := Lib.hid hp
  have HG := Lib.hid g
  clear hp g
  go_enter Tryz.func33, Tryz.ntmps33
  go_wp2_with fail
  refine wp_name (fun W => Ext w W ∧ Blk W (w.heap.size) #[.int .i16 p.n0, .int .u8 (p.d0 : Int), .int .i16 p.n1, .int .u8 (p.d1 : Int), .int .i16 p.n2, .int .u8 (p.d2 : Int)] 26 ∧ Blk W (w.heap.size + 1) #[.string ⟨#[]⟩, .string ⟨#[]⟩] 62) ⟨(((Ext.refl w).alloc _).alloc _), ((Blk.new' (w := _) (cs := #[.int .i16 p.n0, .int .u8 (p.d0 : Int), .int .i16 p.n1, .int .u8 (p.d1 : Int), .int .i16 p.n2, .int .u8 (p.d2 : Int)]) (t := 26) (by first | rfl | (simp only [World.size_alloc]; done) | (simp only [World.size_alloc]; omega) | simp)).alloc _), (Blk.new' (w := _) (cs := #[.string ⟨#[]⟩, .string ⟨#[]⟩]) (t := 62) (by first | rfl | (simp only [World.size_alloc]; done) | (simp only [World.size_alloc]; omega) | simp))⟩ ?_
  rintro w1 ⟨e1, bB0_1, bB1_1⟩
  have HX1 := Lib.hid e1; have HB0_1 := Lib.hid bB0_1; have HB1_1 := Lib.hid bB1_1
  have HGEB0 : Hid (w.heap.size ≤ w.heap.size) := Lib.hid (by first | omega | (simp only []; omega) | (simp; omega))
  have HGEB1 : Hid (w.heap.size ≤ w.heap.size + 1) := Lib.hid (by first | omega | (simp only []; omega) | (simp; omega))
  clear e1 bB0_1 bB1_1
  have hS1 : w1.cell? ⟨w.heap.size, 0, none⟩ = some (.int .i16 p.n0) ∧ w1.cell? ⟨w.heap.size, 1, none⟩ = some (.int .u8 (p.d0 : Int)) ∧ w1.cell? ⟨w.heap.size, 2, none⟩ = some (.int .i16 p.n1) ∧ w1.cell? ⟨w.heap.size, 3, none⟩ = some (.int .u8 (p.d1 : Int)) := ⟨HB0_1.out.cell 0 rfl, HB0_1.out.cell 1 rfl, HB0_1.out.cell 2 rfl, HB0_1.out.cell 3 rfl⟩
  have HS1 := Lib.hid hS1; clear hS1
  go_region_held3 (fun w' => w'.cell? ⟨w.heap.size, 0, none⟩ = some (.int .i16 p.n0) ∧ w'.cell? ⟨w.heap.size, 1, none⟩ = some (.int .u8 (p.d0 : Int)) ∧ w'.cell? ⟨w.heap.size, 2, none⟩ = some (.int .i16 p.n1) ∧ w'.cell? ⟨w.heap.size, 3, none⟩ = some (.int .u8 (p.d1 : Int)))
    (((try simp only [cell_set_ne (show w.heap.size ≠ w.heap.size + 1 from by first | omega | (simp only []; omega) | (simp; omega))]); exact keepsH4 (by repeat (first | assumption | exact Ext.refl _ | apply Ext.drew | apply Ext.alloc | (refine Ext.setCell ?_ (by first | omega | (simp only []; omega) | (simp; omega)) _) | (refine Ext.trans ?_ (by assumption)))) HS1.out)) ((first
      | (go_at_call 24; ((with_reducible refine (mk2_c p.n0 p.d0 _ (HG.out.ext (HX1.out.trans (by repeat (first | assumption | exact Ext.refl _ | apply Ext.drew | apply Ext.alloc | (refine Ext.setCell ?_ (by first | omega | (simp only []; omega) | (simp; omega)) _) | (refine Ext.trans ?_ (by assumption)))))) HP.out.a0 HP.out.b0 HP.out.c0).mono ?_); rintro e w2 ⟨rfl, e2⟩))
      | (go_at_call 24; ((with_reducible refine (mk2_c p.n1 p.d1 _ (HG.out.ext (HX1.out.trans (by repeat (first | assumption | exact Ext.refl _ | apply Ext.drew | apply Ext.alloc | (refine Ext.setCell ?_ (by first | omega | (simp only []; omega) | (simp; omega)) _) | (refine Ext.trans ?_ (by assumption)))))) HP.out.a1 HP.out.b1 HP.out.c1).mono ?_); rintro e w3 ⟨rfl, e3⟩; have RB1 := Blk.ext HB1_1.out (w' := w3) (by repeat (first | assumption | exact Ext.refl _ | apply Ext.drew | (refine Ext.trans ?_ (by assumption)))); have cB1_0 := RB1.cell 0 rfl; have fB1_0 := RB1.free 0; have cB1_1 := RB1.cell 1 rfl; have fB1_1 := RB1.free 1; have HRB1 := Lib.hid RB1; clear RB1))))
  refine wp_name (fun W => Ext w W ∧ Blk W (w.heap.size + 1) #[.string (qs (sm p.n0 p.d0)), .string (qs (sm p.n1 p.d1))] 62) ⟨(((HX1.out.trans (by repeat (first | assumption | exact Ext.refl _ | apply Ext.drew | apply Ext.alloc | (refine Ext.trans ?_ (by assumption))))).setCell (by have := HGEB1.out; first | omega | (simp only []; omega) | (simp; omega)) _).setCell (by have := HGEB1.out; first | omega | (simp only []; omega) | (simp; omega)) _), (((Blk.ext HB1_1.out (by repeat (first | assumption | exact Ext.refl _ | apply Ext.drew | apply Ext.alloc | (refine Ext.trans ?_ (by assumption))))).set 0 (.string (qs (sm p.n0 p.d0)))).set 1 (.string (qs (sm p.n1 p.d1))))⟩ ?_
  clear cB1_0 fB1_0 cB1_1 fB1_1
  rintro w4 ⟨e4, bB1_4⟩
  have HX4 := Lib.hid e4; have HB1_4 := Lib.hid bB1_4
  clear e4 bB1_4
  go_wp2_with fail
  have gB1_0 := HB1_4.out.cell 0 rfl
  have gB1_1 := HB1_4.out.cell 1 rfl
  refine bodyPost_ret (v := .agg #[.string (qs (sm p.n0 p.d0)), .string (qs (sm p.n1 p.d1))]) (by simp [results, Tryz.results33, go_sem, gB1_0, gB1_1]) rfl ⟨rfl, HX4.out⟩

theorem make_c (p : Pla) (w : World) (g : Gd w) (hp : PlaOk p) : Calls Tryz.prog 14 #[plc p] w (Ret w (vv (pvec p))) := make0_c p w g hp
theorem point_c (p : Pla) (w : World) (g : Gd w) (hp : PlaOk p) : Calls Tryz.prog 33 #[plc p] w (Ret w (pv (ppt p))) := point0_c p w g hp

theorem first4_c (x0 x1 x2 x3 : Int) (kb : Nat) (w : World) (hB : Blk w kb #[.int .i64 x0, .int .i64 x1, .int .i64 x2, .int .i64 x3] 32) : Calls Tryz.prog 26 #[.slice (some ⟨kb, 0, none⟩) 4 4] w fun e w' => e = .returned (.int .i64 (ferr [x0, x1, x2, x3])) ∧ w = w' :=
  first_c [x0, x1, x2, x3] kb 4 4 w rfl (by decide) (fun i hi => match i, hi with | 0, _ => hB.cell 0 rfl | 1, _ => hB.cell 1 rfl | 2, _ => hB.cell 2 rfl | 3, _ => hB.cell 3 rfl)
theorem first6_c (x0 x1 x2 x3 x4 x5 : Int) (kb : Nat) (w : World) (hB : Blk w kb #[.int .i64 x0, .int .i64 x1, .int .i64 x2, .int .i64 x3, .int .i64 x4, .int .i64 x5] 32) : Calls Tryz.prog 26 #[.slice (some ⟨kb, 0, none⟩) 6 6] w fun e w' => e = .returned (.int .i64 (ferr [x0, x1, x2, x3, x4, x5])) ∧ w = w' :=
  first_c [x0, x1, x2, x3, x4, x5] kb 6 6 w rfl (by decide) (fun i hi => match i, hi with | 0, _ => hB.cell 0 rfl | 1, _ => hB.cell 1 rfl | 2, _ => hB.cell 2 rfl | 3, _ => hB.cell 3 rfl | 4, _ => hB.cell 4 rfl | 5, _ => hB.cell 5 rfl)
end Go.Proofs.YtglppcmegocphaaGreatDoor
