/- Part 24 of the proof: V4, V6, V7, V7a, L1, L1b, L2. -/
import Derived.Test.YtglppcmegocphaaGreatDoorQU1
import Derived.Test.YtglppcmegocphaaGreatDoorQU2
import Derived.Test.YtglppcmegocphaaGreatDoorQU3
import Derived.Test.YtglppcmegocphaaGreatDoorQU4
import Derived.Test.YtglppcmegocphaaGreatDoorQU5
import Derived.Test.YtglppcmegocphaaGreatDoorQU6
import Derived.Test.YtglppcmegocphaaGreatDoorQU7
import Derived.Test.YtglppcmegocphaaGreatDoorQU8
import Derived.Test.YtglppcmegocphaaGreatDoorQU9
import Derived.Test.YtglppcmegocphaaGreatDoorQU10
import Derived.Test.YtglppcmegocphaaGreatDoorQU11
import Derived.Test.YtglppcmegocphaaGreatDoorQU12
import Derived.Test.YtglppcmegocphaaGreatDoorQU13
import Derived.Test.YtglppcmegocphaaGreatDoorQU14
import Derived.Test.YtglppcmegocphaaGreatDoorQU15
import Derived.Test.YtglppcmegocphaaGreatDoorQU16
import Derived.Test.YtglppcmegocphaaGreatDoorQU17
import Derived.Test.YtglppcmegocphaaGreatDoorQU18
import Derived.Test.YtglppcmegocphaaGreatDoorQU19
import Derived.Test.YtglppcmegocphaaGreatDoorQU20
import Derived.Test.YtglppcmegocphaaGreatDoorQU21
import Derived.Test.YtglppcmegocphaaGreatDoorQU22
import Derived.Test.YtglppcmegocphaaGreatDoorQU23
namespace Go.Proofs.YtglppcmegocphaaGreatDoor
open Go Go.RowKit
set_option maxRecDepth 100000 in
set_option maxHeartbeats 2000000 in
theorem vPlane_ok (p : Pl) (w : World) (g : Gd w) (hn : VB 200 p.n) (hc : QB 200 p.c) (h0 : ¬ (p.n.x = 0 ∧ p.n.y = 0 ∧ p.n.z = 0)) : Calls Tryz.prog 58 #[.agg #[.string (qs p.n.x), .string (qs p.n.y), .string (qs p.n.z), .string (qs p.c)]] w (Ret w (.int .i64 0)) := by
  have HN := Lib.hid hn
  have HC := Lib.hid hc
  have HG := Lib.hid g
  have H0 := Lib.hid h0
  clear hn hc g h0
  go_enter Tryz.func58, Tryz.ntmps58
  go_wp2_with fail
  refine (numbers4_ok p.n.x p.n.y p.n.z p.c (w.heap.size + 1) _ (HG.out.ext (((Ext.refl w).alloc _).alloc _)) HN.out.x HN.out.y HN.out.z HC.out (Blk.new' (w := _) (cs := #[.string (qs p.n.x), .string (qs p.n.y), .string (qs p.n.z), .string (qs p.c)]) (t := 28) (by first | rfl | (simp only [World.size_alloc]; done) | (simp only [World.size_alloc]; omega) | simp))).mono ?_; rintro e w1 ⟨rfl, e1⟩
  have HX1 : Hid (Ext w w1) := Lib.hid ((((Ext.refl w).alloc _).alloc _).trans e1)
  have HB0_1 : Hid (Blk w1 (w.heap.size) #[.string (qs p.n.x), .string (qs p.n.y), .string (qs p.n.z), .string (qs p.c)] 48) := Lib.hid (Blk.ext ((Blk.new' (w := _) (cs := #[.string (qs p.n.x), .string (qs p.n.y), .string (qs p.n.z), .string (qs p.c)]) (t := 48) (by first | rfl | (simp only [World.size_alloc]; done) | (simp only [World.size_alloc]; omega) | simp)).alloc _) e1)
  have HB1_1 : Hid (Blk w1 (w.heap.size + 1) #[.string (qs p.n.x), .string (qs p.n.y), .string (qs p.n.z), .string (qs p.c)] 28) := Lib.hid (Blk.ext (Blk.new' (w := _) (cs := #[.string (qs p.n.x), .string (qs p.n.y), .string (qs p.n.z), .string (qs p.c)]) (t := 28) (by first | rfl | (simp only [World.size_alloc]; done) | (simp only [World.size_alloc]; omega) | simp)) e1)
  have HGEB0 : Hid (w.heap.size ≤ w.heap.size) := Lib.hid (by first | omega | (simp only []; omega) | (simp; omega))
  have HGEB1 : Hid (w.heap.size ≤ w.heap.size + 1) := Lib.hid (by first | omega | (simp only []; omega) | (simp; omega))
  clear e1
  have c0_0 := HB0_1.out.cell 0 rfl
  have c0_1 := HB0_1.out.cell 1 rfl
  have c0_2 := HB0_1.out.cell 2 rfl
  go_wp2_with fail
  refine (vzero_f p.n _ H0.out).mono ?_; rintro e w2 ⟨rfl, e2⟩
  have HX2 : Hid (Ext w w2) := Lib.hid (HX1.out.trans e2)
  clear e2 c0_0 c0_1 c0_2
  go_wp2
  go_ret
  exact ⟨rfl, HX2.out⟩

theorem vCheck_ok (v : V3) (w : World) (g : Gd w) (hv : VB 200 v) : Calls Tryz.prog 54 #[vv v] w (Ret w (.int .i64 0)) := by
  have := vcheck_c ⟨qs v.x, qs v.y, qs v.z⟩ w g hv.ts
  rwa [show terr (T3.l ⟨qs v.x, qs v.y, qs v.z⟩) = 0 from terr_0 hv.all] at this
set_option maxRecDepth 100000 in
set_option maxHeartbeats 2000000 in
theorem vSide_ok (p : Pl) (v : V3) (w : World) (g : Gd w) (hn : VB 200 p.n) (hc : QB 200 p.c) (hv : VB 200 v) (h0 : ¬ (p.n.x = 0 ∧ p.n.y = 0 ∧ p.n.z = 0)) : Calls Tryz.prog 51 #[.agg #[.string (qs p.n.x), .string (qs p.n.y), .string (qs p.n.z), .string (qs p.c)], .agg #[.string (qs v.x), .string (qs v.y), .string (qs v.z)]] w (Ret w (.tuple #[.int .i64 (qcmp (p.n.x * v.x + p.n.y * v.y + p.n.z * v.z) p.c), .int .i64 0])) := by
  have HN := Lib.hid hn
  have HC := Lib.hid hc
  have HG := Lib.hid g
  have HV := Lib.hid hv
  have H0 := Lib.hid h0
  clear hn hc g hv h0
  go_enter Tryz.func51, Tryz.ntmps51
  go_wp2_with fail
  refine (vPlane_ok p _ (HG.out.ext (((Ext.refl w).alloc _).alloc _)) HN.out HC.out H0.out).mono ?_; rintro e w1 ⟨rfl, e1⟩
  have HX1 : Hid (Ext w w1) := Lib.hid ((((Ext.refl w).alloc _).alloc _).trans e1)
  have HB0_1 : Hid (Blk w1 (w.heap.size) #[.string (qs p.n.x), .string (qs p.n.y), .string (qs p.n.z), .string (qs p.c)] 48) := Lib.hid (Blk.ext ((Blk.new' (w := _) (cs := #[.string (qs p.n.x), .string (qs p.n.y), .string (qs p.n.z), .string (qs p.c)]) (t := 48) (by first | rfl | (simp only [World.size_alloc]; done) | (simp only [World.size_alloc]; omega) | simp)).alloc _) e1)
  have HB1_1 : Hid (Blk w1 (w.heap.size + 1) #[.string (qs v.x), .string (qs v.y), .string (qs v.z)] 30) := Lib.hid (Blk.ext (Blk.new' (w := _) (cs := #[.string (qs v.x), .string (qs v.y), .string (qs v.z)]) (t := 30) (by first | rfl | (simp only [World.size_alloc]; done) | (simp only [World.size_alloc]; omega) | simp)) e1)
  have HGEB0 : Hid (w.heap.size ≤ w.heap.size) := Lib.hid (by first | omega | (simp only []; omega) | (simp; omega))
  have HGEB1 : Hid (w.heap.size ≤ w.heap.size + 1) := Lib.hid (by first | omega | (simp only []; omega) | (simp; omega))
  clear e1
  have c1_0 := HB1_1.out.cell 0 rfl
  have c1_1 := HB1_1.out.cell 1 rfl
  have c1_2 := HB1_1.out.cell 2 rfl
  go_wp2_with fail
  refine (vCheck_ok v _ (HG.out.ext HX1.out) HV.out).mono ?_; rintro e w2 ⟨rfl, e2⟩
  have HX2 : Hid (Ext w w2) := Lib.hid (HX1.out.trans e2)
  have HB0_2 := Lib.hid (Blk.ext HB0_1.out e2)
  have HB1_2 := Lib.hid (Blk.ext HB1_1.out e2)
  clear e2 c1_0 c1_1 c1_2
  go_wp2_with fail
  refine wp_name (fun W => Ext w W ∧ Blk W (w.heap.size) #[.string (qs p.n.x), .string (qs p.n.y), .string (qs p.n.z), .string (qs p.c)] 48 ∧ Blk W (w.heap.size + 1) #[.string (qs v.x), .string (qs v.y), .string (qs v.z)] 30) ⟨HX2.out, HB0_2.out, HB1_2.out⟩ ?_
  rintro w3 ⟨e3, bB0_3, bB1_3⟩
  have HX3 := Lib.hid e3; have HB0_3 := Lib.hid bB0_3; have HB1_3 := Lib.hid bB1_3
  clear e3 bB0_3 bB1_3
  have hS3 : w3.cell? ⟨w.heap.size, 0, none⟩ = some (.string (qs p.n.x)) ∧ w3.cell? ⟨w.heap.size, 1, none⟩ = some (.string (qs p.n.y)) ∧ w3.cell? ⟨w.heap.size, 2, none⟩ = some (.string (qs p.n.z)) ∧ w3.cell? ⟨w.heap.size + 1, 0, none⟩ = some (.string (qs v.x)) ∧ w3.cell? ⟨w.heap.size + 1, 1, none⟩ = some (.string (qs v.y)) ∧ w3.cell? ⟨w.heap.size + 1, 2, none⟩ = some (.string (qs v.z)) ∧ w3.cell? ⟨w.heap.size, 3, none⟩ = some (.string (qs p.c)) := ⟨HB0_3.out.cell 0 rfl, HB0_3.out.cell 1 rfl, HB0_3.out.cell 2 rfl, HB1_3.out.cell 0 rfl, HB1_3.out.cell 1 rfl, HB1_3.out.cell 2 rfl, HB0_3.out.cell 3 rfl⟩
  have HS3 := Lib.hid hS3; clear hS3
  go_region_held3 (fun w' => w'.cell? ⟨w.heap.size, 0, none⟩ = some (.string (qs p.n.x)) ∧ w'.cell? ⟨w.heap.size, 1, none⟩ = some (.string (qs p.n.y)) ∧ w'.cell? ⟨w.heap.size, 2, none⟩ = some (.string (qs p.n.z)) ∧ w'.cell? ⟨w.heap.size + 1, 0, none⟩ = some (.string (qs v.x)) ∧ w'.cell? ⟨w.heap.size + 1, 1, none⟩ = some (.string (qs v.y)) ∧ w'.cell? ⟨w.heap.size + 1, 2, none⟩ = some (.string (qs v.z)) ∧ w'.cell? ⟨w.heap.size, 3, none⟩ = some (.string (qs p.c)))
    ((exact keepsH7 (by repeat (first | assumption | exact Ext.refl _ | apply Ext.drew | apply Ext.alloc | (refine Ext.setCell ?_ (by first | omega | (simp only []; omega) | (simp; omega)) _) | (refine Ext.trans ?_ (by assumption)))) HS3.out)) ((first
      | (go_at_call 87; ((with_reducible refine (vdot0_c p.n v _ (HG.out.ext (HX3.out.trans (by repeat (first | assumption | exact Ext.refl _ | apply Ext.drew | apply Ext.alloc | (refine Ext.setCell ?_ (by first | omega | (simp only []; omega) | (simp; omega)) _) | (refine Ext.trans ?_ (by assumption)))))) HN.out HV.out (by omega) (by omega)).mono ?_); rintro e w4 ⟨rfl, e4⟩))
      | (go_at_call 105; ((with_reducible refine (rcompare_c (p.n.x * v.x + p.n.y * v.y + p.n.z * v.z) p.c _ (HG.out.ext (HX3.out.trans (by repeat (first | assumption | exact Ext.refl _ | apply Ext.drew | apply Ext.alloc | (refine Ext.setCell ?_ (by first | omega | (simp only []; omega) | (simp; omega)) _) | (refine Ext.trans ?_ (by assumption)))))) (((HN.out.x.mul HV.out.x).add (HN.out.y.mul HV.out.y)).add (HN.out.z.mul HV.out.z)) HC.out (by omega) (by omega)).mono ?_); rintro e w5 ⟨rfl, e5⟩))))
  refine wp_name (fun W => Ext w W) (HX3.out.trans (((Ext.refl _).drew.trans e4).trans e5)) ?_
  rintro w6 e6
  have HX6 := Lib.hid e6
  clear e6
  go_wp2
  go_ret2
  exact ⟨rfl, HX6.out⟩

set_option maxRecDepth 100000 in
set_option maxHeartbeats 2000000 in
theorem vThrough_0 (a b : P2) (w : World) (g : Gd w) (ha : PB 200 a) (hb : PB 200 b) (hr : VB 200 ⟨a.y - b.y, b.x - a.x, (a.y - b.y) * a.x + (b.x - a.x) * a.y⟩) (h0 : a.x ≠ b.x) : Calls Tryz.prog 40 #[.agg #[.string (qs a.x), .string (qs a.y)], .agg #[.string (qs b.x), .string (qs b.y)]] w (Ret w (.tuple #[.agg #[.string (qs (a.y - b.y)), .string (qs (b.x - a.x)), .string (qs ((a.y - b.y) * a.x + (b.x - a.x) * a.y))], .int .i64 0])) := by
  have HA := Lib.hid ha
  have HB := Lib.hid hb
  have HR := Lib.hid hr
  have HG := Lib.hid g
  clear ha hb hr g
  have h0_t := qs_neL h0
  go_enter Tryz.func40, Tryz.ntmps40
  go_wp2_with fail
  refine (points2_ok a b (w.heap.size + 1 + 1 + 1) _ (HG.out.ext (((((Ext.refl w).alloc _).alloc _).alloc _).alloc _)) (HA.out.mono (by omega)) (HB.out.mono (by omega)) (Blk.new' (w := _) (cs := #[.string (qs a.x), .string (qs a.y), .string (qs b.x), .string (qs b.y)]) (t := 62) (by first | rfl | (simp only [World.size_alloc]; done) | (simp only [World.size_alloc]; omega) | simp))).mono ?_; rintro e w1 ⟨rfl, e1⟩
  have HX1 : Hid (Ext w w1) := Lib.hid ((((((Ext.refl w).alloc _).alloc _).alloc _).alloc _).trans e1)
  have HB0_1 : Hid (Blk w1 (w.heap.size) #[.string (qs a.x), .string (qs a.y)] 62) := Lib.hid (Blk.ext ((((Blk.new' (w := _) (cs := #[.string (qs a.x), .string (qs a.y)]) (t := 62) (by first | rfl | (simp only [World.size_alloc]; done) | (simp only [World.size_alloc]; omega) | simp)).alloc _).alloc _).alloc _) e1)
  have HB1_1 : Hid (Blk w1 (w.heap.size + 1) #[.string (qs b.x), .string (qs b.y)] 62) := Lib.hid (Blk.ext (((Blk.new' (w := _) (cs := #[.string (qs b.x), .string (qs b.y)]) (t := 62) (by first | rfl | (simp only [World.size_alloc]; done) | (simp only [World.size_alloc]; omega) | simp)).alloc _).alloc _) e1)
  have HB2_1 : Hid (Blk w1 (w.heap.size + 1 + 1) #[.string ⟨#[]⟩, .string ⟨#[]⟩, .string ⟨#[]⟩] 73) := Lib.hid (Blk.ext ((Blk.new' (w := _) (cs := #[.string ⟨#[]⟩, .string ⟨#[]⟩, .string ⟨#[]⟩]) (t := 73) (by first | rfl | (simp only [World.size_alloc]; done) | (simp only [World.size_alloc]; omega) | simp)).alloc _) e1)
  have HB3_1 : Hid (Blk w1 (w.heap.size + 1 + 1 + 1) #[.string (qs a.x), .string (qs a.y), .string (qs b.x), .string (qs b.y)] 62) := Lib.hid (Blk.ext (Blk.new' (w := _) (cs := #[.string (qs a.x), .string (qs a.y), .string (qs b.x), .string (qs b.y)]) (t := 62) (by first | rfl | (simp only [World.size_alloc]; done) | (simp only [World.size_alloc]; omega) | simp)) e1)
  have HGEB0 : Hid (w.heap.size ≤ w.heap.size) := Lib.hid (by first | omega | (simp only []; omega) | (simp; omega))
  have HGEB1 : Hid (w.heap.size ≤ w.heap.size + 1) := Lib.hid (by first | omega | (simp only []; omega) | (simp; omega))
  have HGEB2 : Hid (w.heap.size ≤ w.heap.size + 1 + 1) := Lib.hid (by first | omega | (simp only []; omega) | (simp; omega))
  have HGEB3 : Hid (w.heap.size ≤ w.heap.size + 1 + 1 + 1) := Lib.hid (by first | omega | (simp only []; omega) | (simp; omega))
  clear e1
  have c0_0 := HB0_1.out.cell 0 rfl
  have c0_1 := HB0_1.out.cell 1 rfl
  have c1_0 := HB1_1.out.cell 0 rfl
  have c1_1 := HB1_1.out.cell 1 rfl
  go_wp2_with fail
  refine wp_name (fun W => Ext w W ∧ Blk W (w.heap.size) #[.string (qs a.x), .string (qs a.y)] 62 ∧ Blk W (w.heap.size + 1) #[.string (qs b.x), .string (qs b.y)] 62 ∧ Blk W (w.heap.size + 1 + 1) #[.string ⟨#[]⟩, .string ⟨#[]⟩, .string ⟨#[]⟩] 73) ⟨HX1.out, HB0_1.out, HB1_1.out, HB2_1.out⟩ ?_
  rintro w2 ⟨e2, bB0_2, bB1_2, bB2_2⟩
  have HX2 := Lib.hid e2; have HB0_2 := Lib.hid bB0_2; have HB1_2 := Lib.hid bB1_2; have HB2_2 := Lib.hid bB2_2
  clear e2 bB0_2 bB1_2 bB2_2 c0_0 c0_1 c1_0 c1_1
  have hS2 : w2.cell? ⟨w.heap.size, 1, none⟩ = some (.string (qs a.y)) ∧ w2.cell? ⟨w.heap.size + 1, 1, none⟩ = some (.string (qs b.y)) ∧ w2.cell? ⟨w.heap.size + 1, 0, none⟩ = some (.string (qs b.x)) ∧ w2.cell? ⟨w.heap.size, 0, none⟩ = some (.string (qs a.x)) := ⟨HB0_2.out.cell 1 rfl, HB1_2.out.cell 1 rfl, HB1_2.out.cell 0 rfl, HB0_2.out.cell 0 rfl⟩
  have HS2 := Lib.hid hS2; clear hS2
  go_cut [7] from 20 to 30 (fun p7 wx => ∃ i4 : Nat, p7 = .pointer (some ⟨i4, 0, none⟩) ∧ w2.heap.size ≤ i4 ∧ Ext w2 wx ∧ Blk wx i4 #[.string (qs (a.y - b.y)), .string (qs (b.x - a.x)), .string ⟨#[]⟩] 73)
  case first =>
    go_region_held3 (fun w' => w'.cell? ⟨w.heap.size, 1, none⟩ = some (.string (qs a.y)) ∧ w'.cell? ⟨w.heap.size + 1, 1, none⟩ = some (.string (qs b.y)) ∧ w'.cell? ⟨w.heap.size + 1, 0, none⟩ = some (.string (qs b.x)) ∧ w'.cell? ⟨w.heap.size, 0, none⟩ = some (.string (qs a.x)))
      ((exact keepsH4 (by repeat (first | assumption | exact Ext.refl _ | apply Ext.drew | apply Ext.alloc | (refine Ext.setCell ?_ (by first | omega | (simp only []; omega) | (simp; omega)) _) | (refine Ext.trans ?_ (by assumption)))) HS2.out)) (first
      | (go_at_call 93; ((with_reducible refine (rsub_c a.y b.y _ (HG.out.ext (HX2.out.trans (by repeat (first | assumption | exact Ext.refl _ | apply Ext.drew | apply Ext.alloc | (refine Ext.setCell ?_ (by first | omega | (simp only []; omega) | (simp; omega)) _) | (refine Ext.trans ?_ (by assumption)))))) HA.out.y HB.out.y (by omega) (by omega)).mono ?_); rintro e w3 ⟨rfl, e3⟩; have z3 := e3.size; (try simp at z3); (first | (have N3 : Blk w3 w2.heap.size #[.string ⟨#[]⟩, .string ⟨#[]⟩, .string ⟨#[]⟩] 73 := Blk.ext (Blk.new' (by rfl)) e3) | (have N3 : Blk w3 w2.heap.size #[.string ⟨#[]⟩, .string ⟨#[]⟩, .string ⟨#[]⟩] 73 := Blk.ext (Blk.drew (Blk.new' (by rfl))) e3) | skip)))
      | (go_at_call 93; ((with_reducible refine (rsub_c b.x a.x _ (HG.out.ext (HX2.out.trans (by repeat (first | assumption | exact Ext.refl _ | apply Ext.drew | apply Ext.alloc | (refine Ext.setCell ?_ (by first | omega | (simp only []; omega) | (simp; omega)) _) | (refine Ext.trans ?_ (by assumption)))))) HB.out.x HA.out.x (by omega) (by omega)).mono ?_); rintro e w4 ⟨rfl, e4⟩; have z4 := e4.size; (try simp at z4); (first | (have N4 : Blk w4 w3.heap.size #[.string ⟨#[]⟩, .string ⟨#[]⟩, .string ⟨#[]⟩] 73 := Blk.ext (Blk.new' (by rfl)) e4) | (have N4 : Blk w4 w3.heap.size #[.string ⟨#[]⟩, .string ⟨#[]⟩, .string ⟨#[]⟩] 73 := Blk.ext (Blk.drew (Blk.new' (by rfl))) e4) | (have N4 := Blk.ext N3 e4) | skip); (first | (have q0 := N4.cell 0 rfl; have f0 := N4.free 0; have q1 := N4.cell 1 rfl; have f1 := N4.free 1; have q2 := N4.cell 2 rfl; have f2 := N4.free 2) | skip))))
    all_goals (go_wp2_with fail; go_meet)
    all_goals (refine ⟨_, rfl, by first | omega | (simp; omega), (by repeat (first | assumption | exact Ext.refl _ | apply Ext.drew | apply Ext.alloc | (refine Ext.setCell ?_ (by first | omega | (simp only []; omega) | (simp; omega)) _) | (refine Ext.trans ?_ (by assumption)))), ?_⟩)
    all_goals (repeat (first | assumption | (refine Blk.new' ?_; first | rfl | (simp only [World.size_alloc]; done) | (simp only [World.size_alloc]; omega)) | apply Blk.alloc | apply Blk.drew | (exact Blk.fill3 (by assumption)) | (refine Blk.ext ?_ (by assumption))))
  obtain ⟨i4, rfl, hgeB4, e5, bB4⟩ := hcut
  rename World => w5
  have HX5 : Hid (Ext w w5) := Lib.hid (HX2.out.trans e5)
  have HB0_5 := Lib.hid (HB0_2.out.ext e5)
  have HB2_5 := Lib.hid (HB2_2.out.ext e5)
  have HB4_5 := Lib.hid bB4; have HGEB4 : Hid (w.heap.size ≤ i4) := Lib.hid (Nat.le_trans HX2.out.size hgeB4)
  have HNEB0B4 : Hid (w.heap.size ≠ i4) := Lib.hid (by have := HB0_2.out.lt; omega)
  have HNEB2B4 : Hid (w.heap.size + 1 + 1 ≠ i4) := Lib.hid (by have := HB2_2.out.lt; omega)
  clear hgeB4 e5 bB4
  go_wp2_with fail
  refine wp_name (fun W => Ext w W ∧ Blk W (w.heap.size) #[.string (qs a.x), .string (qs a.y)] 62 ∧ Blk W (w.heap.size + 1 + 1) #[.string ⟨#[]⟩, .string ⟨#[]⟩, .string ⟨#[]⟩] 73 ∧ Blk W (i4) #[.string (qs (a.y - b.y)), .string (qs (b.x - a.x)), .string ⟨#[]⟩] 73) ⟨HX5.out, HB0_5.out, HB2_5.out, HB4_5.out⟩ ?_
  rintro w6 ⟨e6, bB0_6, bB2_6, bB4_6⟩
  have HX6 := Lib.hid e6; have HB0_6 := Lib.hid bB0_6; have HB2_6 := Lib.hid bB2_6; have HB4_6 := Lib.hid bB4_6
  clear e6 bB0_6 bB2_6 bB4_6
  have hS6 : w6.cell? ⟨i4, 0, none⟩ = some (.string (qs (a.y - b.y))) ∧ w6.cell? ⟨w.heap.size, 0, none⟩ = some (.string (qs a.x)) ∧ w6.cell? ⟨i4, 1, none⟩ = some (.string (qs (b.x - a.x))) ∧ w6.cell? ⟨w.heap.size, 1, none⟩ = some (.string (qs a.y)) := ⟨HB4_6.out.cell 0 rfl, HB0_6.out.cell 0 rfl, HB4_6.out.cell 1 rfl, HB0_6.out.cell 1 rfl⟩
  have HS6 := Lib.hid hS6; clear hS6
  go_region_held3 (fun w' => w'.cell? ⟨i4, 0, none⟩ = some (.string (qs (a.y - b.y))) ∧ w'.cell? ⟨w.heap.size, 0, none⟩ = some (.string (qs a.x)) ∧ w'.cell? ⟨i4, 1, none⟩ = some (.string (qs (b.x - a.x))) ∧ w'.cell? ⟨w.heap.size, 1, none⟩ = some (.string (qs a.y)))
    (((try simp only [cell_set_off (b := i4) (show (0 : Nat) ≠ 2 by decide), cell_set_off (b := i4) (show (1 : Nat) ≠ 2 by decide), cell_set_ne (show w.heap.size ≠ i4 from HNEB0B4.out)]); exact keepsH4 (by repeat (first | assumption | exact Ext.refl _ | apply Ext.drew | apply Ext.alloc | (refine Ext.setCell ?_ (by first | omega | (simp only []; omega) | (simp; omega)) _) | (refine Ext.trans ?_ (by assumption)))) HS6.out)) ((first
      | (go_at_call 95; ((with_reducible refine (rmul_c (a.y - b.y) a.x _ (HG.out.ext (HX6.out.trans (by repeat (first | assumption | exact Ext.refl _ | apply Ext.drew | apply Ext.alloc | (refine Ext.setCell ?_ (by first | omega | (simp only []; omega) | (simp; omega)) _) | (refine Ext.trans ?_ (by assumption)))))) (HA.out.y.sub HB.out.y) HA.out.x (by omega) (by omega)).mono ?_); rintro e w7 ⟨rfl, e7⟩))
      | (go_at_call 95; ((with_reducible refine (rmul_c (b.x - a.x) a.y _ (HG.out.ext (HX6.out.trans (by repeat (first | assumption | exact Ext.refl _ | apply Ext.drew | apply Ext.alloc | (refine Ext.setCell ?_ (by first | omega | (simp only []; omega) | (simp; omega)) _) | (refine Ext.trans ?_ (by assumption)))))) (HB.out.x.sub HA.out.x) HA.out.y (by omega) (by omega)).mono ?_); rintro e w8 ⟨rfl, e8⟩))
      | (go_at_call 89; ((with_reducible refine (radd_c ((a.y - b.y) * a.x) ((b.x - a.x) * a.y) _ (HG.out.ext (HX6.out.trans (by repeat (first | assumption | exact Ext.refl _ | apply Ext.drew | apply Ext.alloc | (refine Ext.setCell ?_ (by first | omega | (simp only []; omega) | (simp; omega)) _) | (refine Ext.trans ?_ (by assumption)))))) ((HA.out.y.sub HB.out.y).mul HA.out.x) ((HB.out.x.sub HA.out.x).mul HA.out.y) (by omega) (by omega)).mono ?_); rintro e w9 ⟨rfl, e9⟩; have RB4 := Blk.ext HB4_6.out (w' := w9) (by repeat (first | assumption | exact Ext.refl _ | apply Ext.drew | (refine Ext.trans ?_ (by assumption)))); have cB4_2 := RB4.cell 2 rfl; have fB4_2 := RB4.free 2; have HRB4 := Lib.hid RB4; clear RB4))))
  refine wp_name (fun W => Ext w W ∧ Blk W (w.heap.size + 1 + 1) #[.string ⟨#[]⟩, .string ⟨#[]⟩, .string ⟨#[]⟩] 73 ∧ Blk W (i4) #[.string (qs (a.y - b.y)), .string (qs (b.x - a.x)), .string (qs ((a.y - b.y) * a.x + (b.x - a.x) * a.y))] 73) ⟨((HX6.out.trans ((((Ext.refl _).drew.trans e7).trans e8).trans e9)).setCell (by have := HGEB4.out; first | omega | (simp only []; omega) | (simp; omega)) _), ((Blk.ext HB2_6.out ((((Ext.refl _).drew.trans e7).trans e8).trans e9)).other (a := ⟨i4, 2, none⟩) _ (HNEB2B4.out)), ((Blk.ext HB4_6.out ((((Ext.refl _).drew.trans e7).trans e8).trans e9)).set 2 (.string (qs ((a.y - b.y) * a.x + (b.x - a.x) * a.y))))⟩ ?_
  clear cB4_2 fB4_2
  rintro w10 ⟨e10, bB2_10, bB4_10⟩
  have HX10 := Lib.hid e10; have HB2_10 := Lib.hid bB2_10; have HB4_10 := Lib.hid bB4_10
  clear e10 bB2_10 bB4_10
  have c4_0 := HB4_10.out.cell 0 rfl
  go_wp2_with fail
  refine (long_no (a.y - b.y) _ HR.out.x).mono ?_; rintro e w11 ⟨rfl, e11⟩
  have HX11 : Hid (Ext w w11) := Lib.hid (HX10.out.trans e11)
  have HB2_11 := Lib.hid (Blk.ext HB2_10.out e11)
  have HB4_11 : Hid (Blk w11 (i4) #[.string (qs (a.y - b.y)), .string (qs (b.x - a.x)), .string (qs ((a.y - b.y) * a.x + (b.x - a.x) * a.y))] 73) := Lib.hid (Blk.ext HB4_10.out e11)
  clear e11 c4_0
  have c4_1 := HB4_11.out.cell 1 rfl
  go_wp2_with fail
  refine (long_no (b.x - a.x) _ HR.out.y).mono ?_; rintro e w12 ⟨rfl, e12⟩
  have HX12 : Hid (Ext w w12) := Lib.hid (HX11.out.trans e12)
  have HB2_12 := Lib.hid (Blk.ext HB2_11.out e12)
  have HB4_12 : Hid (Blk w12 (i4) #[.string (qs (a.y - b.y)), .string (qs (b.x - a.x)), .string (qs ((a.y - b.y) * a.x + (b.x - a.x) * a.y))] 73) := Lib.hid (Blk.ext HB4_11.out e12)
  clear e12 c4_1
  have c4_2 := HB4_12.out.cell 2 rfl
  go_wp2_with fail
  refine (long_no ((a.y - b.y) * a.x + (b.x - a.x) * a.y) _ HR.out.z).mono ?_; rintro e w13 ⟨rfl, e13⟩
  have HX13 : Hid (Ext w w13) := Lib.hid (HX12.out.trans e13)
  have HB2_13 := Lib.hid (Blk.ext HB2_12.out e13)
  have HB4_13 : Hid (Blk w13 (i4) #[.string (qs (a.y - b.y)), .string (qs (b.x - a.x)), .string (qs ((a.y - b.y) * a.x + (b.x - a.x) * a.y))] 73) := Lib.hid (Blk.ext HB4_12.out e13)
  clear e13 c4_2
  have c4_0 := HB4_13.out.cell 0 rfl
  have c4_1 := HB4_13.out.cell 1 rfl
  have c4_2 := HB4_13.out.cell 2 rfl
  have c2_0 := HB2_13.out.cell 0 rfl
  have f2_0 := HB2_13.out.free 0
  have c2_1 := HB2_13.out.cell 1 rfl
  have f2_1 := HB2_13.out.free 1
  have c2_2 := HB2_13.out.cell 2 rfl
  have f2_2 := HB2_13.out.free 2
  go_wp2_with fail
  refine wp_name (fun W => Ext w W ∧ Blk W (w.heap.size + 1 + 1) #[.string (qs (a.y - b.y)), .string (qs (b.x - a.x)), .string (qs ((a.y - b.y) * a.x + (b.x - a.x) * a.y))] 73) ⟨(((HX13.out.setCell (by have := HGEB2.out; first | omega | (simp only []; omega) | (simp; omega)) _).setCell (by have := HGEB2.out; first | omega | (simp only []; omega) | (simp; omega)) _).setCell (by have := HGEB2.out; first | omega | (simp only []; omega) | (simp; omega)) _), (((HB2_13.out.set 0 (.string (qs (a.y - b.y)))).set 1 (.string (qs (b.x - a.x)))).set 2 (.string (qs ((a.y - b.y) * a.x + (b.x - a.x) * a.y))))⟩ ?_
  rintro w14 ⟨e14, bB2_14⟩
  have HX14 := Lib.hid e14; have HB2_14 := Lib.hid bB2_14
  clear e14 bB2_14 c4_0 c4_1 c4_2 c2_0 f2_0 c2_1 f2_1 c2_2 f2_2
  have gB2_0 := HB2_14.out.cell 0 rfl
  have gB2_1 := HB2_14.out.cell 1 rfl
  have gB2_2 := HB2_14.out.cell 2 rfl
  refine bodyPost_ret (v := .tuple #[.agg #[.string (qs (a.y - b.y)), .string (qs (b.x - a.x)), .string (qs ((a.y - b.y) * a.x + (b.x - a.x) * a.y))], .int .i64 0]) (by simp [results, Tryz.results40, go_sem, gB2_0, gB2_1, gB2_2]) rfl ⟨rfl, HX14.out⟩

set_option maxRecDepth 100000 in
set_option maxHeartbeats 2000000 in
theorem vThrough_1 (a b : P2) (w : World) (g : Gd w) (ha : PB 200 a) (hb : PB 200 b) (hr : VB 200 ⟨a.y - b.y, b.x - a.x, (a.y - b.y) * a.x + (b.x - a.x) * a.y⟩) (h0 : a.x = b.x) (h1 : a.y ≠ b.y) : Calls Tryz.prog 40 #[.agg #[.string (qs a.x), .string (qs a.y)], .agg #[.string (qs b.x), .string (qs b.y)]] w (Ret w (.tuple #[.agg #[.string (qs (a.y - b.y)), .string (qs (b.x - a.x)), .string (qs ((a.y - b.y) * a.x + (b.x - a.x) * a.y))], .int .i64 0])) := by
  have HA := Lib.hid ha
  have HB := Lib.hid hb
  have HR := Lib.hid hr
  have HG := Lib.hid g
  clear ha hb hr g
  have h0_t := qs_eqL h0
  have h1_t := qs_neL h1
  clear h0
  go_enter Tryz.func40, Tryz.ntmps40
  go_wp2_with fail
  refine (points2_ok a b (w.heap.size + 1 + 1 + 1) _ (HG.out.ext (((((Ext.refl w).alloc _).alloc _).alloc _).alloc _)) (HA.out.mono (by omega)) (HB.out.mono (by omega)) (Blk.new' (w := _) (cs := #[.string (qs a.x), .string (qs a.y), .string (qs b.x), .string (qs b.y)]) (t := 62) (by first | rfl | (simp only [World.size_alloc]; done) | (simp only [World.size_alloc]; omega) | simp))).mono ?_; rintro e w1 ⟨rfl, e1⟩
  have HX1 : Hid (Ext w w1) := Lib.hid ((((((Ext.refl w).alloc _).alloc _).alloc _).alloc _).trans e1)
  have HB0_1 : Hid (Blk w1 (w.heap.size) #[.string (qs a.x), .string (qs a.y)] 62) := Lib.hid (Blk.ext ((((Blk.new' (w := _) (cs := #[.string (qs a.x), .string (qs a.y)]) (t := 62) (by first | rfl | (simp only [World.size_alloc]; done) | (simp only [World.size_alloc]; omega) | simp)).alloc _).alloc _).alloc _) e1)
  have HB1_1 : Hid (Blk w1 (w.heap.size + 1) #[.string (qs b.x), .string (qs b.y)] 62) := Lib.hid (Blk.ext (((Blk.new' (w := _) (cs := #[.string (qs b.x), .string (qs b.y)]) (t := 62) (by first | rfl | (simp only [World.size_alloc]; done) | (simp only [World.size_alloc]; omega) | simp)).alloc _).alloc _) e1)
  have HB2_1 : Hid (Blk w1 (w.heap.size + 1 + 1) #[.string ⟨#[]⟩, .string ⟨#[]⟩, .string ⟨#[]⟩] 73) := Lib.hid (Blk.ext ((Blk.new' (w := _) (cs := #[.string ⟨#[]⟩, .string ⟨#[]⟩, .string ⟨#[]⟩]) (t := 73) (by first | rfl | (simp only [World.size_alloc]; done) | (simp only [World.size_alloc]; omega) | simp)).alloc _) e1)
  have HB3_1 : Hid (Blk w1 (w.heap.size + 1 + 1 + 1) #[.string (qs a.x), .string (qs a.y), .string (qs b.x), .string (qs b.y)] 62) := Lib.hid (Blk.ext (Blk.new' (w := _) (cs := #[.string (qs a.x), .string (qs a.y), .string (qs b.x), .string (qs b.y)]) (t := 62) (by first | rfl | (simp only [World.size_alloc]; done) | (simp only [World.size_alloc]; omega) | simp)) e1)
  have HGEB0 : Hid (w.heap.size ≤ w.heap.size) := Lib.hid (by first | omega | (simp only []; omega) | (simp; omega))
  have HGEB1 : Hid (w.heap.size ≤ w.heap.size + 1) := Lib.hid (by first | omega | (simp only []; omega) | (simp; omega))
  have HGEB2 : Hid (w.heap.size ≤ w.heap.size + 1 + 1) := Lib.hid (by first | omega | (simp only []; omega) | (simp; omega))
  have HGEB3 : Hid (w.heap.size ≤ w.heap.size + 1 + 1 + 1) := Lib.hid (by first | omega | (simp only []; omega) | (simp; omega))
  clear e1
  have c0_0 := HB0_1.out.cell 0 rfl
  have c0_1 := HB0_1.out.cell 1 rfl
  have c1_0 := HB1_1.out.cell 0 rfl
  have c1_1 := HB1_1.out.cell 1 rfl
  go_wp2_with fail
  refine wp_name (fun W => Ext w W ∧ Blk W (w.heap.size) #[.string (qs a.x), .string (qs a.y)] 62 ∧ Blk W (w.heap.size + 1) #[.string (qs b.x), .string (qs b.y)] 62 ∧ Blk W (w.heap.size + 1 + 1) #[.string ⟨#[]⟩, .string ⟨#[]⟩, .string ⟨#[]⟩] 73) ⟨HX1.out, HB0_1.out, HB1_1.out, HB2_1.out⟩ ?_
  rintro w2 ⟨e2, bB0_2, bB1_2, bB2_2⟩
  have HX2 := Lib.hid e2; have HB0_2 := Lib.hid bB0_2; have HB1_2 := Lib.hid bB1_2; have HB2_2 := Lib.hid bB2_2
  clear e2 bB0_2 bB1_2 bB2_2 c0_0 c0_1 c1_0 c1_1
  have hS2 : w2.cell? ⟨w.heap.size, 1, none⟩ = some (.string (qs a.y)) ∧ w2.cell? ⟨w.heap.size + 1, 1, none⟩ = some (.string (qs b.y)) ∧ w2.cell? ⟨w.heap.size + 1, 0, none⟩ = some (.string (qs b.x)) ∧ w2.cell? ⟨w.heap.size, 0, none⟩ = some (.string (qs a.x)) := ⟨HB0_2.out.cell 1 rfl, HB1_2.out.cell 1 rfl, HB1_2.out.cell 0 rfl, HB0_2.out.cell 0 rfl⟩
  have HS2 := Lib.hid hS2; clear hS2
  go_cut [7] from 20 to 30 (fun p7 wx => ∃ i4 : Nat, p7 = .pointer (some ⟨i4, 0, none⟩) ∧ w2.heap.size ≤ i4 ∧ Ext w2 wx ∧ Blk wx i4 #[.string (qs (a.y - b.y)), .string (qs (b.x - a.x)), .string ⟨#[]⟩] 73)
  case first =>
    go_region_held3 (fun w' => w'.cell? ⟨w.heap.size, 1, none⟩ = some (.string (qs a.y)) ∧ w'.cell? ⟨w.heap.size + 1, 1, none⟩ = some (.string (qs b.y)) ∧ w'.cell? ⟨w.heap.size + 1, 0, none⟩ = some (.string (qs b.x)) ∧ w'.cell? ⟨w.heap.size, 0, none⟩ = some (.string (qs a.x)))
      ((exact keepsH4 (by repeat (first | assumption | exact Ext.refl _ | apply Ext.drew | apply Ext.alloc | (refine Ext.setCell ?_ (by first | omega | (simp only []; omega) | (simp; omega)) _) | (refine Ext.trans ?_ (by assumption)))) HS2.out)) (first
      | (go_at_call 93; ((with_reducible refine (rsub_c a.y b.y _ (HG.out.ext (HX2.out.trans (by repeat (first | assumption | exact Ext.refl _ | apply Ext.drew | apply Ext.alloc | (refine Ext.setCell ?_ (by first | omega | (simp only []; omega) | (simp; omega)) _) | (refine Ext.trans ?_ (by assumption)))))) HA.out.y HB.out.y (by omega) (by omega)).mono ?_); rintro e w3 ⟨rfl, e3⟩; have z3 := e3.size; (try simp at z3); (first | (have N3 : Blk w3 w2.heap.size #[.string ⟨#[]⟩, .string ⟨#[]⟩, .string ⟨#[]⟩] 73 := Blk.ext (Blk.new' (by rfl)) e3) | (have N3 : Blk w3 w2.heap.size #[.string ⟨#[]⟩, .string ⟨#[]⟩, .string ⟨#[]⟩] 73 := Blk.ext (Blk.drew (Blk.new' (by rfl))) e3) | skip)))
      | (go_at_call 93; ((with_reducible refine (rsub_c b.x a.x _ (HG.out.ext (HX2.out.trans (by repeat (first | assumption | exact Ext.refl _ | apply Ext.drew | apply Ext.alloc | (refine Ext.setCell ?_ (by first | omega | (simp only []; omega) | (simp; omega)) _) | (refine Ext.trans ?_ (by assumption)))))) HB.out.x HA.out.x (by omega) (by omega)).mono ?_); rintro e w4 ⟨rfl, e4⟩; have z4 := e4.size; (try simp at z4); (first | (have N4 : Blk w4 w3.heap.size #[.string ⟨#[]⟩, .string ⟨#[]⟩, .string ⟨#[]⟩] 73 := Blk.ext (Blk.new' (by rfl)) e4) | (have N4 : Blk w4 w3.heap.size #[.string ⟨#[]⟩, .string ⟨#[]⟩, .string ⟨#[]⟩] 73 := Blk.ext (Blk.drew (Blk.new' (by rfl))) e4) | (have N4 := Blk.ext N3 e4) | skip); (first | (have q0 := N4.cell 0 rfl; have f0 := N4.free 0; have q1 := N4.cell 1 rfl; have f1 := N4.free 1; have q2 := N4.cell 2 rfl; have f2 := N4.free 2) | skip))))
    all_goals (go_wp2_with fail; go_meet)
    all_goals (refine ⟨_, rfl, by first | omega | (simp; omega), (by repeat (first | assumption | exact Ext.refl _ | apply Ext.drew | apply Ext.alloc | (refine Ext.setCell ?_ (by first | omega | (simp only []; omega) | (simp; omega)) _) | (refine Ext.trans ?_ (by assumption)))), ?_⟩)
    all_goals (repeat (first | assumption | (refine Blk.new' ?_; first | rfl | (simp only [World.size_alloc]; done) | (simp only [World.size_alloc]; omega)) | apply Blk.alloc | apply Blk.drew | (exact Blk.fill3 (by assumption)) | (refine Blk.ext ?_ (by assumption))))
  obtain ⟨i4, rfl, hgeB4, e5, bB4⟩ := hcut
  rename World => w5
  have HX5 : Hid (Ext w w5) := Lib.hid (HX2.out.trans e5)
  have HB0_5 := Lib.hid (HB0_2.out.ext e5)
  have HB2_5 := Lib.hid (HB2_2.out.ext e5)
  have HB4_5 := Lib.hid bB4; have HGEB4 : Hid (w.heap.size ≤ i4) := Lib.hid (Nat.le_trans HX2.out.size hgeB4)
  have HNEB0B4 : Hid (w.heap.size ≠ i4) := Lib.hid (by have := HB0_2.out.lt; omega)
  have HNEB2B4 : Hid (w.heap.size + 1 + 1 ≠ i4) := Lib.hid (by have := HB2_2.out.lt; omega)
  clear hgeB4 e5 bB4
  go_wp2_with fail
  refine wp_name (fun W => Ext w W ∧ Blk W (w.heap.size) #[.string (qs a.x), .string (qs a.y)] 62 ∧ Blk W (w.heap.size + 1 + 1) #[.string ⟨#[]⟩, .string ⟨#[]⟩, .string ⟨#[]⟩] 73 ∧ Blk W (i4) #[.string (qs (a.y - b.y)), .string (qs (b.x - a.x)), .string ⟨#[]⟩] 73) ⟨HX5.out, HB0_5.out, HB2_5.out, HB4_5.out⟩ ?_
  rintro w6 ⟨e6, bB0_6, bB2_6, bB4_6⟩
  have HX6 := Lib.hid e6; have HB0_6 := Lib.hid bB0_6; have HB2_6 := Lib.hid bB2_6; have HB4_6 := Lib.hid bB4_6
  clear e6 bB0_6 bB2_6 bB4_6
  have hS6 : w6.cell? ⟨i4, 0, none⟩ = some (.string (qs (a.y - b.y))) ∧ w6.cell? ⟨w.heap.size, 0, none⟩ = some (.string (qs a.x)) ∧ w6.cell? ⟨i4, 1, none⟩ = some (.string (qs (b.x - a.x))) ∧ w6.cell? ⟨w.heap.size, 1, none⟩ = some (.string (qs a.y)) := ⟨HB4_6.out.cell 0 rfl, HB0_6.out.cell 0 rfl, HB4_6.out.cell 1 rfl, HB0_6.out.cell 1 rfl⟩
  have HS6 := Lib.hid hS6; clear hS6
  go_region_held3 (fun w' => w'.cell? ⟨i4, 0, none⟩ = some (.string (qs (a.y - b.y))) ∧ w'.cell? ⟨w.heap.size, 0, none⟩ = some (.string (qs a.x)) ∧ w'.cell? ⟨i4, 1, none⟩ = some (.string (qs (b.x - a.x))) ∧ w'.cell? ⟨w.heap.size, 1, none⟩ = some (.string (qs a.y)))
    (((try simp only [cell_set_off (b := i4) (show (0 : Nat) ≠ 2 by decide), cell_set_off (b := i4) (show (1 : Nat) ≠ 2 by decide), cell_set_ne (show w.heap.size ≠ i4 from HNEB0B4.out)]); exact keepsH4 (by repeat (first | assumption | exact Ext.refl _ | apply Ext.drew | apply Ext.alloc | (refine Ext.setCell ?_ (by first | omega | (simp only []; omega) | (simp; omega)) _) | (refine Ext.trans ?_ (by assumption)))) HS6.out)) ((first
      | (go_at_call 95; ((with_reducible refine (rmul_c (a.y - b.y) a.x _ (HG.out.ext (HX6.out.trans (by repeat (first | assumption | exact Ext.refl _ | apply Ext.drew | apply Ext.alloc | (refine Ext.setCell ?_ (by first | omega | (simp only []; omega) | (simp; omega)) _) | (refine Ext.trans ?_ (by assumption)))))) (HA.out.y.sub HB.out.y) HA.out.x (by omega) (by omega)).mono ?_); rintro e w7 ⟨rfl, e7⟩))
      | (go_at_call 95; ((with_reducible refine (rmul_c (b.x - a.x) a.y _ (HG.out.ext (HX6.out.trans (by repeat (first | assumption | exact Ext.refl _ | apply Ext.drew | apply Ext.alloc | (refine Ext.setCell ?_ (by first | omega | (simp only []; omega) | (simp; omega)) _) | (refine Ext.trans ?_ (by assumption)))))) (HB.out.x.sub HA.out.x) HA.out.y (by omega) (by omega)).mono ?_); rintro e w8 ⟨rfl, e8⟩))
      | (go_at_call 89; ((with_reducible refine (radd_c ((a.y - b.y) * a.x) ((b.x - a.x) * a.y) _ (HG.out.ext (HX6.out.trans (by repeat (first | assumption | exact Ext.refl _ | apply Ext.drew | apply Ext.alloc | (refine Ext.setCell ?_ (by first | omega | (simp only []; omega) | (simp; omega)) _) | (refine Ext.trans ?_ (by assumption)))))) ((HA.out.y.sub HB.out.y).mul HA.out.x) ((HB.out.x.sub HA.out.x).mul HA.out.y) (by omega) (by omega)).mono ?_); rintro e w9 ⟨rfl, e9⟩; have RB4 := Blk.ext HB4_6.out (w' := w9) (by repeat (first | assumption | exact Ext.refl _ | apply Ext.drew | (refine Ext.trans ?_ (by assumption)))); have cB4_2 := RB4.cell 2 rfl; have fB4_2 := RB4.free 2; have HRB4 := Lib.hid RB4; clear RB4))))
  refine wp_name (fun W => Ext w W ∧ Blk W (w.heap.size + 1 + 1) #[.string ⟨#[]⟩, .string ⟨#[]⟩, .string ⟨#[]⟩] 73 ∧ Blk W (i4) #[.string (qs (a.y - b.y)), .string (qs (b.x - a.x)), .string (qs ((a.y - b.y) * a.x + (b.x - a.x) * a.y))] 73) ⟨((HX6.out.trans ((((Ext.refl _).drew.trans e7).trans e8).trans e9)).setCell (by have := HGEB4.out; first | omega | (simp only []; omega) | (simp; omega)) _), ((Blk.ext HB2_6.out ((((Ext.refl _).drew.trans e7).trans e8).trans e9)).other (a := ⟨i4, 2, none⟩) _ (HNEB2B4.out)), ((Blk.ext HB4_6.out ((((Ext.refl _).drew.trans e7).trans e8).trans e9)).set 2 (.string (qs ((a.y - b.y) * a.x + (b.x - a.x) * a.y))))⟩ ?_
  clear cB4_2 fB4_2
  rintro w10 ⟨e10, bB2_10, bB4_10⟩
  have HX10 := Lib.hid e10; have HB2_10 := Lib.hid bB2_10; have HB4_10 := Lib.hid bB4_10
  clear e10 bB2_10 bB4_10
  have c4_0 := HB4_10.out.cell 0 rfl
  go_wp2_with fail
  refine (long_no (a.y - b.y) _ HR.out.x).mono ?_; rintro e w11 ⟨rfl, e11⟩
  have HX11 : Hid (Ext w w11) := Lib.hid (HX10.out.trans e11)
  have HB2_11 := Lib.hid (Blk.ext HB2_10.out e11)
  have HB4_11 : Hid (Blk w11 (i4) #[.string (qs (a.y - b.y)), .string (qs (b.x - a.x)), .string (qs ((a.y - b.y) * a.x + (b.x - a.x) * a.y))] 73) := Lib.hid (Blk.ext HB4_10.out e11)
  clear e11 c4_0
  have c4_1 := HB4_11.out.cell 1 rfl
  go_wp2_with fail
  refine (long_no (b.x - a.x) _ HR.out.y).mono ?_; rintro e w12 ⟨rfl, e12⟩
  have HX12 : Hid (Ext w w12) := Lib.hid (HX11.out.trans e12)
  have HB2_12 := Lib.hid (Blk.ext HB2_11.out e12)
  have HB4_12 : Hid (Blk w12 (i4) #[.string (qs (a.y - b.y)), .string (qs (b.x - a.x)), .string (qs ((a.y - b.y) * a.x + (b.x - a.x) * a.y))] 73) := Lib.hid (Blk.ext HB4_11.out e12)
  clear e12 c4_1
  have c4_2 := HB4_12.out.cell 2 rfl
  go_wp2_with fail
  refine (long_no ((a.y - b.y) * a.x + (b.x - a.x) * a.y) _ HR.out.z).mono ?_; rintro e w13 ⟨rfl, e13⟩
  have HX13 : Hid (Ext w w13) := Lib.hid (HX12.out.trans e13)
  have HB2_13 := Lib.hid (Blk.ext HB2_12.out e13)
  have HB4_13 : Hid (Blk w13 (i4) #[.string (qs (a.y - b.y)), .string (qs (b.x - a.x)), .string (qs ((a.y - b.y) * a.x + (b.x - a.x) * a.y))] 73) := Lib.hid (Blk.ext HB4_12.out e13)
  clear e13 c4_2
  have c4_0 := HB4_13.out.cell 0 rfl
  have c4_1 := HB4_13.out.cell 1 rfl
  have c4_2 := HB4_13.out.cell 2 rfl
  have c2_0 := HB2_13.out.cell 0 rfl
  have f2_0 := HB2_13.out.free 0
  have c2_1 := HB2_13.out.cell 1 rfl
  have f2_1 := HB2_13.out.free 1
  have c2_2 := HB2_13.out.cell 2 rfl
  have f2_2 := HB2_13.out.free 2
  go_wp2_with fail
  refine wp_name (fun W => Ext w W ∧ Blk W (w.heap.size + 1 + 1) #[.string (qs (a.y - b.y)), .string (qs (b.x - a.x)), .string (qs ((a.y - b.y) * a.x + (b.x - a.x) * a.y))] 73) ⟨(((HX13.out.setCell (by have := HGEB2.out; first | omega | (simp only []; omega) | (simp; omega)) _).setCell (by have := HGEB2.out; first | omega | (simp only []; omega) | (simp; omega)) _).setCell (by have := HGEB2.out; first | omega | (simp only []; omega) | (simp; omega)) _), (((HB2_13.out.set 0 (.string (qs (a.y - b.y)))).set 1 (.string (qs (b.x - a.x)))).set 2 (.string (qs ((a.y - b.y) * a.x + (b.x - a.x) * a.y))))⟩ ?_
  rintro w14 ⟨e14, bB2_14⟩
  have HX14 := Lib.hid e14; have HB2_14 := Lib.hid bB2_14
  clear e14 bB2_14 c4_0 c4_1 c4_2 c2_0 f2_0 c2_1 f2_1 c2_2 f2_2
  have gB2_0 := HB2_14.out.cell 0 rfl
  have gB2_1 := HB2_14.out.cell 1 rfl
  have gB2_2 := HB2_14.out.cell 2 rfl
  refine bodyPost_ret (v := .tuple #[.agg #[.string (qs (a.y - b.y)), .string (qs (b.x - a.x)), .string (qs ((a.y - b.y) * a.x + (b.x - a.x) * a.y))], .int .i64 0]) (by simp [results, Tryz.results40, go_sem, gB2_0, gB2_1, gB2_2]) rfl ⟨rfl, HX14.out⟩

theorem vThrough_ok (a b : P2) (w : World) (g : Gd w) (ha : PB 200 a) (hb : PB 200 b) (hr : VB 200 ⟨a.y - b.y, b.x - a.x, (a.y - b.y) * a.x + (b.x - a.x) * a.y⟩) (h : a ≠ b) : Calls Tryz.prog 40 #[pv a, pv b] w (Ret w (.tuple #[vv ⟨a.y - b.y, b.x - a.x, (a.y - b.y) * a.x + (b.x - a.x) * a.y⟩, .int .i64 0])) := by
  by_cases h0 : a.x = b.x
  · exact vThrough_1 a b w g ha hb hr h0 (fun e => h (by cases a; cases b; simp_all))
  · exact vThrough_0 a b w g ha hb hr h0

end Go.Proofs.YtglppcmegocphaaGreatDoor

namespace Go.Proofs.YtglppcmegocphaaGreatDoor
open Go Go.RowKit
theorem QB.inum {k : Nat} {q : Rat} (h : QB k q) : IB k q.num := ⟨h.num⟩
theorem QB.iden {k : Nat} {q : Rat} (h : QB k q) : IB k (q.den : Int) := ⟨by simpa using h.den⟩
theorem IB.zero : IB 1 0 := ⟨by decide⟩
theorem IB.one : IB 1 1 := ⟨by decide⟩
theorem IB.gcd {k m : Nat} {a b : Int} (ha : IB k a) (hb : IB m b) : IB (max k m) (Int.gcd a b : Int) := by
  by_cases h : b = 0
  · subst h; have := ha.mono (Nat.le_max_left k m); exact this.of_le (by simp)
  · exact (hb.mono (Nat.le_max_right k m)).of_le (by rw [Int.natAbs_natCast]; exact Nat.le_of_dvd (by omega) (Int.gcd_dvd_natAbs_right a b))
theorem IB.div {k : Nat} {a : Int} (ha : IB k a) (b : Int) : IB k (a / b) := ha.of_le (Int.natAbs_ediv_le_natAbs a b)
theorem gcd_1 (b : Int) {m : Nat} (w : World) (g : Gd w) (hb : IB m b) (hm : m ≤ 9000) : Calls Tryz.prog 71 #[.string ⟨#[49]⟩, .string (zs b)] w (Ret w (.string (zs (Int.gcd 1 b : Int)))) := by
  have := gcd_c 1 b w g IB.one hb (by decide) hm; rwa [zs_one] at this
theorem gcd_0 (b : Int) {m : Nat} (w : World) (g : Gd w) (hb : IB m b) (hm : m ≤ 9000) : Calls Tryz.prog 71 #[.string ⟨#[48]⟩, .string (zs b)] w (Ret w (.string (zs (Int.gcd 0 b : Int)))) := by
  have := gcd_c 0 b w g IB.zero hb (by decide) hm; rwa [zs_zero] at this
theorem imul_1 (b : Int) {m : Nat} (w : World) (g : Gd w) (hb : IB m b) (hm : m ≤ 9000) : Calls Tryz.prog 73 #[.string ⟨#[49]⟩, .string (zs b)] w (Ret w (.string (zs (1 * b)))) := by
  have := mul_c 1 b w g IB.one hb (by decide) hm; rwa [zs_one] at this
theorem vscale0_z (a : V3) (n : Int) {k m : Nat} (w : World) (g : Gd w) (ha : VB k a) (hn : IB m n) (hk : k ≤ 3000) (hm : m ≤ 3000) (h1 : 1 ≤ m) : Calls Tryz.prog 74 #[vv a, .string (zs n)] w (Ret w (.agg #[.string (qs (a.x * (n : Rat))), .string (qs (a.y * (n : Rat))), .string (qs (a.z * (n : Rat)))])) := by
  have := vscale0_c a (n : Rat) w g ha (QB.int hn h1) hk hm; rwa [qs_int] at this
theorem new_1 (d : Nat) (hd : d ≠ 0) {m : Nat} (w : World) (g : Gd w) (hdb : IB m (d : Int)) (hm : m ≤ 8000) :
    Calls Tryz.prog 75 #[.string ⟨#[49]⟩, .string (zs (d : Int))] w (Ret w (.tuple #[.string (qs (mkRat 1 d)), .int .i64 0])) := by
  have := new_c 1 d hd w g IB.one hdb (by decide) hm; rwa [zs_one] at this
theorem QB.mk1 {m : Nat} {d : Nat} (hd : d ≠ 0) (h : IB m (d : Int)) (hm : 1 ≤ m) : QB m (mkRat 1 d) := QB.mk' hd (Nat.one_lt_pow (by omega) (by decide)) (by simpa using h.out)
theorem gcd_ne {a b : Int} (h : b ≠ 0) : (Int.gcd a b : Int) ≠ 0 := by
  intro e; have e' : Int.gcd a b = 0 := by omega
  exact h (Int.gcd_eq_zero_iff.1 e').2
theorem den_ne (q : Rat) : (q.den : Int) ≠ 0 := by have := q.den_nz; omega

def pd0 (v : V3) : Int := (Int.gcd 1 (v.x.den : Int) : Int)
def pd1 (v : V3) : Int := 1 * ((v.x.den : Int) / pd0 v)
def pd2 (v : V3) : Int := pd1 v * ((v.y.den : Int) / (Int.gcd (pd1 v) (v.y.den : Int) : Int))
def pden (v : V3) : Int := pd2 v * ((v.z.den : Int) / (Int.gcd (pd2 v) (v.z.den : Int) : Int))
def pn1 (v : V3) : Int := (Int.gcd 0 v.x.num : Int)
def pn2 (v : V3) : Int := (Int.gcd (pn1 v) v.y.num : Int)
def pnum (v : V3) : Nat := Int.gcd (pn2 v) v.z.num
def vwhole (v : V3) : V3 := ⟨v.x * (pden v : Rat), v.y * (pden v : Rat), v.z * (pden v : Rat)⟩
def vprim (v : V3) : V3 := ⟨(vwhole v).x * mkRat 1 (pnum (vwhole v)), (vwhole v).y * mkRat 1 (pnum (vwhole v)), (vwhole v).z * mkRat 1 (pnum (vwhole v))⟩

theorem pg0 (v : V3) {m : Nat} (w : World) (g : Gd w) (hb : IB m (v.x.den : Int)) (hm : m ≤ 9000) : Calls Tryz.prog 71 #[.string ⟨#[49]⟩, .string (zs (v.x.den : Int))] w (Ret w (.string (zs (pd0 v)))) := gcd_1 _ w g hb hm
theorem pd0_ne (v : V3) : pd0 v ≠ 0 := gcd_ne (den_ne _)
theorem IB.pd0 {k : Nat} {v : V3} (h : VB k v) : IB (max 1 k) (pd0 v) := IB.one.gcd (QB.iden h.x)
theorem pm1 (v : V3) {m : Nat} (w : World) (g : Gd w) (hb : IB m ((v.x.den : Int) / pd0 v)) (hm : m ≤ 9000) : Calls Tryz.prog 73 #[.string ⟨#[49]⟩, .string (zs ((v.x.den : Int) / pd0 v))] w (Ret w (.string (zs (pd1 v)))) := imul_1 _ w g hb hm
theorem pm2 (v : V3) {k m : Nat} (w : World) (g : Gd w) (ha : IB k (pd1 v)) (hb : IB m ((v.y.den : Int) / (Int.gcd (pd1 v) (v.y.den : Int) : Int))) (hk : k ≤ 9000) (hm : m ≤ 9000) : Calls Tryz.prog 73 #[.string (zs (pd1 v)), .string (zs ((v.y.den : Int) / (Int.gcd (pd1 v) (v.y.den : Int) : Int)))] w (Ret w (.string (zs (pd2 v)))) := mul_c _ _ w g ha hb hk hm
theorem pm3 (v : V3) {k m : Nat} (w : World) (g : Gd w) (ha : IB k (pd2 v)) (hb : IB m ((v.z.den : Int) / (Int.gcd (pd2 v) (v.z.den : Int) : Int))) (hk : k ≤ 9000) (hm : m ≤ 9000) : Calls Tryz.prog 73 #[.string (zs (pd2 v)), .string (zs ((v.z.den : Int) / (Int.gcd (pd2 v) (v.z.den : Int) : Int)))] w (Ret w (.string (zs (pden v)))) := mul_c _ _ w g ha hb hk hm
theorem pg1 (v : V3) {m : Nat} (w : World) (g : Gd w) (hb : IB m v.x.num) (hm : m ≤ 9000) : Calls Tryz.prog 71 #[.string ⟨#[48]⟩, .string (zs v.x.num)] w (Ret w (.string (zs (pn1 v)))) := gcd_0 _ w g hb hm
theorem pg2 (v : V3) {k m : Nat} (w : World) (g : Gd w) (ha : IB k (pn1 v)) (hb : IB m v.y.num) (hk : k ≤ 9000) (hm : m ≤ 9000) : Calls Tryz.prog 71 #[.string (zs (pn1 v)), .string (zs v.y.num)] w (Ret w (.string (zs (pn2 v)))) := gcd_c _ _ w g ha hb hk hm
theorem pg3 (v : V3) {k m : Nat} (w : World) (g : Gd w) (ha : IB k (pn2 v)) (hb : IB m v.z.num) (hk : k ≤ 9000) (hm : m ≤ 9000) : Calls Tryz.prog 71 #[.string (zs (pn2 v)), .string (zs v.z.num)] w (Ret w (.string (zs (pnum v : Int)))) := gcd_c _ _ w g ha hb hk hm
theorem IB.pd1 {k : Nat} {v : V3} (h : VB k v) : IB (1 + k) (pd1 v) := IB.one.mul ((QB.iden h.x).div _)
theorem IB.pd2 {k : Nat} {v : V3} (h : VB k v) : IB (1 + k + k) (pd2 v) := (IB.pd1 h).mul ((QB.iden h.y).div _)
theorem IB.pden {k : Nat} {v : V3} (h : VB k v) : IB (1 + k + k + k) (pden v) := (IB.pd2 h).mul ((QB.iden h.z).div _)
theorem IB.pn1 {k : Nat} {v : V3} (h : VB k v) : IB (max 1 k) (pn1 v) := IB.zero.gcd (QB.inum h.x)
theorem IB.pn2 {k : Nat} {v : V3} (h : VB k v) : IB (max (max 1 k) k) (pn2 v) := (IB.pn1 h).gcd (QB.inum h.y)
theorem IB.pnum {k : Nat} {v : V3} (h : VB k v) : IB (max (max (max 1 k) k) k) (pnum v : Int) := (IB.pn2 h).gcd (QB.inum h.z)
theorem vscaleW (a : V3) {k : Nat} (w : World) (g : Gd w) (ha : VB k a) (hk : k ≤ 900) : Calls Tryz.prog 74 #[vv a, .string (zs (pden a))] w (Ret w (vv (vwhole a))) :=
  vscale0_z a (pden a) w g ha (IB.pden ha) (by omega) (by omega) (by omega)
theorem vscaleP (a : V3) {k m : Nat} (w : World) (g : Gd w) (ha : VB k (vwhole a)) (hq : QB m (mkRat 1 (pnum (vwhole a)))) (hk : k ≤ 3000) (hm : m ≤ 3000) : Calls Tryz.prog 74 #[vv (vwhole a), .string (qs (mkRat 1 (pnum (vwhole a))))] w (Ret w (vv (vprim a))) :=
  vscale0_c (vwhole a) (mkRat 1 (pnum (vwhole a))) w g ha hq hk hm

set_option maxRecDepth 100000 in
set_option maxHeartbeats 16000000 in
theorem vPrim_ok (a : V3) (w : World) (g : Gd w) (ha : VB 24 a) (hz : ¬ (a.x = 0 ∧ a.y = 0 ∧ a.z = 0)) (hw : VB 97 (vwhole a)) (hg0 : pnum (vwhole a) ≠ 0) (hr : VB 200 (vprim a)) : Calls Tryz.prog 15 #[.agg #[.string (qs a.x), .string (qs a.y), .string (qs a.z)]] w (Ret w (.tuple #[.agg #[.string (qs ((vprim a).x)), .string (qs ((vprim a).y)), .string (qs ((vprim a).z))], .int .i64 0])) := by
  have HA := Lib.hid ha
  have HZ := Lib.hid hz
  have HW := Lib.hid hw
  have HG0 := Lib.hid hg0
  have HR := Lib.hid hr
  have HG := Lib.hid g
  clear ha hz hw hg0 hr g
  have HQG : Hid (QB 97 (mkRat 1 (pnum (vwhole a)))) := Lib.hid (QB.mk1 HG0.out ((IB.pnum HW.out).mono (by decide)) (by decide))
  have ix0 : ∀ W, (Instr.index 108 (.agg #[.string (qs a.x), .string (qs a.y), .string (qs a.z)]) (.int .i64 0)).run Tryz.prog W = .ok (.string (qs a.x)) W := fun W => by kernel_rfl
  have ix1 : ∀ W, (Instr.index 108 (.agg #[.string (qs a.x), .string (qs a.y), .string (qs a.z)]) (.int .i64 1)).run Tryz.prog W = .ok (.string (qs a.y)) W := fun W => by kernel_rfl
  have ix2 : ∀ W, (Instr.index 108 (.agg #[.string (qs a.x), .string (qs a.y), .string (qs a.z)]) (.int .i64 2)).run Tryz.prog W = .ok (.string (qs a.z)) W := fun W => by kernel_rfl
  have ix3 : ∀ W, (Instr.index 108 (.agg #[.string (qs ((vwhole a).x)), .string (qs ((vwhole a).y)), .string (qs ((vwhole a).z))]) (.int .i64 0)).run Tryz.prog W = .ok (.string (qs ((vwhole a).x))) W := fun W => by kernel_rfl
  have ix4 : ∀ W, (Instr.index 108 (.agg #[.string (qs ((vwhole a).x)), .string (qs ((vwhole a).y)), .string (qs ((vwhole a).z))]) (.int .i64 1)).run Tryz.prog W = .ok (.string (qs ((vwhole a).y))) W := fun W => by kernel_rfl
  have ix5 : ∀ W, (Instr.index 108 (.agg #[.string (qs ((vwhole a).x)), .string (qs ((vwhole a).y)), .string (qs ((vwhole a).z))]) (.int .i64 2)).run Tryz.prog W = .ok (.string (qs ((vwhole a).z))) W := fun W => by kernel_rfl
  go_enter Tryz.func15, Tryz.ntmps15
  go_wp2_with fail
  refine (vectors1_ok a (w.heap.size + 1 + 1) _ (HG.out.ext ((((Ext.refl w).alloc _).alloc _).alloc _)) (HA.out.mono (by omega)) (Blk.new' (w := _) (cs := #[.string (qs a.x), .string (qs a.y), .string (qs a.z)]) (t := 30) (by first | rfl | (simp only [World.size_alloc]; done) | (simp only [World.size_alloc]; omega) | simp))).mono ?_; rintro e w1 ⟨rfl, e1⟩
  have HX1 : Hid (Ext w w1) := Lib.hid (((((Ext.refl w).alloc _).alloc _).alloc _).trans e1)
  have HB0_1 : Hid (Blk w1 (w.heap.size) #[.string (qs a.x), .string (qs a.y), .string (qs a.z)] 30) := Lib.hid (Blk.ext (((Blk.new' (w := _) (cs := #[.string (qs a.x), .string (qs a.y), .string (qs a.z)]) (t := 30) (by first | rfl | (simp only [World.size_alloc]; done) | (simp only [World.size_alloc]; omega) | simp)).alloc _).alloc _) e1)
  have HB1_1 : Hid (Blk w1 (w.heap.size + 1) #[.string ⟨#[]⟩, .string ⟨#[]⟩, .string ⟨#[]⟩] 30) := Lib.hid (Blk.ext ((Blk.new' (w := _) (cs := #[.string ⟨#[]⟩, .string ⟨#[]⟩, .string ⟨#[]⟩]) (t := 30) (by first | rfl | (simp only [World.size_alloc]; done) | (simp only [World.size_alloc]; omega) | simp)).alloc _) e1)
  have HB2_1 : Hid (Blk w1 (w.heap.size + 1 + 1) #[.string (qs a.x), .string (qs a.y), .string (qs a.z)] 30) := Lib.hid (Blk.ext (Blk.new' (w := _) (cs := #[.string (qs a.x), .string (qs a.y), .string (qs a.z)]) (t := 30) (by first | rfl | (simp only [World.size_alloc]; done) | (simp only [World.size_alloc]; omega) | simp)) e1)
  have HGEB0 : Hid (w.heap.size ≤ w.heap.size) := Lib.hid (by first | omega | (simp only []; omega) | (simp; omega))
  have HGEB1 : Hid (w.heap.size ≤ w.heap.size + 1) := Lib.hid (by first | omega | (simp only []; omega) | (simp; omega))
  have HGEB2 : Hid (w.heap.size ≤ w.heap.size + 1 + 1) := Lib.hid (by first | omega | (simp only []; omega) | (simp; omega))
  clear e1
  have c0_0 := HB0_1.out.cell 0 rfl
  have c0_1 := HB0_1.out.cell 1 rfl
  have c0_2 := HB0_1.out.cell 2 rfl
  go_wp2_with fail
  refine (vzero_f a _ HZ.out).mono ?_; rintro e w2 ⟨rfl, e2⟩
  have HX2 : Hid (Ext w w2) := Lib.hid (HX1.out.trans e2)
  have HB0_2 := Lib.hid (Blk.ext HB0_1.out e2)
  have HB1_2 := Lib.hid (Blk.ext HB1_1.out e2)
  clear e2 c0_0 c0_1 c0_2
  have c0_0 := HB0_2.out.cell 0 rfl
  have c0_1 := HB0_2.out.cell 1 rfl
  have c0_2 := HB0_2.out.cell 2 rfl
  go_wp2_with fail
  refine (list_c ⟨qs a.x, qs a.y, qs a.z⟩ _).mono ?_; rintro e w3 ⟨rfl, e3⟩
  have HX3 : Hid (Ext w w3) := Lib.hid (HX2.out.trans e3)
  have HB0_3 := Lib.hid (Blk.ext HB0_2.out e3)
  have HB1_3 := Lib.hid (Blk.ext HB1_2.out e3)
  clear e3 c0_0 c0_1 c0_2
  go_wp2_with fail
  refine wp_loop_rounds 4 ?_
  rw [rounds_succ]
  go_wp2_with fail
  refine (parts_c a.x _ HA.out.x (by omega)).mono ?_; rintro e w4 ⟨rfl, e4⟩
  have HX4 : Hid (Ext w w4) := Lib.hid (HX3.out.trans e4)
  have HB0_4 := Lib.hid (Blk.ext HB0_3.out e4)
  have HB1_4 := Lib.hid (Blk.ext HB1_3.out e4)
  clear e4
  go_wp2_with fail
  refine (pg0 a _ (HG.out.ext HX4.out) (QB.iden HA.out.x) (by omega)).mono ?_; rintro e w5 ⟨rfl, e5⟩
  have HX5 : Hid (Ext w w5) := Lib.hid (HX4.out.trans e5)
  have HB0_5 := Lib.hid (Blk.ext HB0_4.out e5)
  have HB1_5 := Lib.hid (Blk.ext HB1_4.out e5)
  clear e5
  go_wp2_with fail
  refine (divmod_c (a.x.den : Int) (pd0 a) _ (HG.out.ext HX5.out) (QB.iden HA.out.x) (IB.pd0 HA.out) (by omega) (by omega) (pd0_ne a)).mono ?_; rintro e w6 ⟨rfl, e6⟩
  have HX6 : Hid (Ext w w6) := Lib.hid (HX5.out.trans e6)
  have HB0_6 := Lib.hid (Blk.ext HB0_5.out e6)
  have HB1_6 := Lib.hid (Blk.ext HB1_5.out e6)
  clear e6
  go_wp2_with fail
  refine (pm1 a _ (HG.out.ext HX6.out) (IB.div (QB.iden HA.out.x) (pd0 a)) (by omega)).mono ?_; rintro e w7 ⟨rfl, e7⟩
  have HX7 : Hid (Ext w w7) := Lib.hid (HX6.out.trans e7)
  have HB0_7 := Lib.hid (Blk.ext HB0_6.out e7)
  have HB1_7 := Lib.hid (Blk.ext HB1_6.out e7)
  clear e7
  go_wp2_with fail
  rw [rounds_succ]
  go_wp2_with fail
  refine (parts_c a.y _ HA.out.y (by omega)).mono ?_; rintro e w8 ⟨rfl, e8⟩
  have HX8 : Hid (Ext w w8) := Lib.hid (HX7.out.trans e8)
  have HB0_8 := Lib.hid (Blk.ext HB0_7.out e8)
  have HB1_8 := Lib.hid (Blk.ext HB1_7.out e8)
  clear e8
  go_wp2_with fail
  refine (gcd_c (pd1 a) (a.y.den : Int) _ (HG.out.ext HX8.out) (IB.pd1 HA.out) (QB.iden HA.out.y) (by omega) (by omega)).mono ?_; rintro e w9 ⟨rfl, e9⟩
  have HX9 : Hid (Ext w w9) := Lib.hid (HX8.out.trans e9)
  have HB0_9 := Lib.hid (Blk.ext HB0_8.out e9)
  have HB1_9 := Lib.hid (Blk.ext HB1_8.out e9)
  clear e9
  go_wp2_with fail
  refine (divmod_c (a.y.den : Int) (Int.gcd (pd1 a) (a.y.den : Int) : Int) _ (HG.out.ext HX9.out) (QB.iden HA.out.y) (IB.gcd (IB.pd1 HA.out) (QB.iden HA.out.y)) (by omega) (by omega) (gcd_ne (den_ne _))).mono ?_; rintro e w10 ⟨rfl, e10⟩
  have HX10 : Hid (Ext w w10) := Lib.hid (HX9.out.trans e10)
  have HB0_10 := Lib.hid (Blk.ext HB0_9.out e10)
  have HB1_10 := Lib.hid (Blk.ext HB1_9.out e10)
  clear e10
  go_wp2_with fail
  refine (pm2 a _ (HG.out.ext HX10.out) (IB.pd1 HA.out) (IB.div (QB.iden HA.out.y) (Int.gcd (pd1 a) (a.y.den : Int) : Int)) (by omega) (by omega)).mono ?_; rintro e w11 ⟨rfl, e11⟩
  have HX11 : Hid (Ext w w11) := Lib.hid (HX10.out.trans e11)
  have HB0_11 := Lib.hid (Blk.ext HB0_10.out e11)
  have HB1_11 := Lib.hid (Blk.ext HB1_10.out e11)
  clear e11
  go_wp2_with fail
  rw [rounds_succ]
  go_wp2_with fail
  refine (parts_c a.z _ HA.out.z (by omega)).mono ?_; rintro e w12 ⟨rfl, e12⟩
  have HX12 : Hid (Ext w w12) := Lib.hid (HX11.out.trans e12)
  have HB0_12 := Lib.hid (Blk.ext HB0_11.out e12)
  have HB1_12 := Lib.hid (Blk.ext HB1_11.out e12)
  clear e12
  go_wp2_with fail
  refine (gcd_c (pd2 a) (a.z.den : Int) _ (HG.out.ext HX12.out) (IB.pd2 HA.out) (QB.iden HA.out.z) (by omega) (by omega)).mono ?_; rintro e w13 ⟨rfl, e13⟩
  have HX13 : Hid (Ext w w13) := Lib.hid (HX12.out.trans e13)
  have HB0_13 := Lib.hid (Blk.ext HB0_12.out e13)
  have HB1_13 := Lib.hid (Blk.ext HB1_12.out e13)
  clear e13
  go_wp2_with fail
  refine (divmod_c (a.z.den : Int) (Int.gcd (pd2 a) (a.z.den : Int) : Int) _ (HG.out.ext HX13.out) (QB.iden HA.out.z) (IB.gcd (IB.pd2 HA.out) (QB.iden HA.out.z)) (by omega) (by omega) (gcd_ne (den_ne _))).mono ?_; rintro e w14 ⟨rfl, e14⟩
  have HX14 : Hid (Ext w w14) := Lib.hid (HX13.out.trans e14)
  have HB0_14 := Lib.hid (Blk.ext HB0_13.out e14)
  have HB1_14 := Lib.hid (Blk.ext HB1_13.out e14)
  clear e14
  go_wp2_with fail
  refine (pm3 a _ (HG.out.ext HX14.out) (IB.pd2 HA.out) (IB.div (QB.iden HA.out.z) (Int.gcd (pd2 a) (a.z.den : Int) : Int)) (by omega) (by omega)).mono ?_; rintro e w15 ⟨rfl, e15⟩
  have HX15 : Hid (Ext w w15) := Lib.hid (HX14.out.trans e15)
  have HB0_15 := Lib.hid (Blk.ext HB0_14.out e15)
  have HB1_15 := Lib.hid (Blk.ext HB1_14.out e15)
  clear e15
  go_wp2_with fail
  rw [rounds_succ]
  have c0_0 := HB0_15.out.cell 0 rfl
  have c0_1 := HB0_15.out.cell 1 rfl
  have c0_2 := HB0_15.out.cell 2 rfl
  go_wp2_with fail
  refine (vscaleW a _ (HG.out.ext HX15.out) HA.out (by omega)).mono ?_; rintro e w16 ⟨rfl, e16⟩
  have HX16 : Hid (Ext w w16) := Lib.hid (HX15.out.trans e16)
  have HB1_16 := Lib.hid (Blk.ext HB1_15.out e16)
  clear e16 c0_0 c0_1 c0_2
  go_wp2_with fail
  refine wp_loop_rounds 4 ?_
  rw [rounds_succ]
  go_wp2_with fail
  refine (parts_c ((vwhole a).x) _ HW.out.x (by omega)).mono ?_; rintro e w17 ⟨rfl, e17⟩
  have HX17 : Hid (Ext w w17) := Lib.hid ((HX16.out.alloc _).trans e17)
  have HB1_17 : Hid (Blk w17 (w.heap.size + 1) #[.string ⟨#[]⟩, .string ⟨#[]⟩, .string ⟨#[]⟩] 30) := Lib.hid (Blk.ext (HB1_16.out.alloc _) e17)
  have HB3_17 : Hid (Blk w17 (w16.heap.size) #[.string (qs ((vwhole a).x)), .string (qs ((vwhole a).y)), .string (qs ((vwhole a).z))] 108) := Lib.hid (Blk.ext (Blk.new' (w := _) (cs := #[.string (qs ((vwhole a).x)), .string (qs ((vwhole a).y)), .string (qs ((vwhole a).z))]) (t := 108) (by first | rfl | (simp only [World.size_alloc]; done) | (simp only [World.size_alloc]; omega) | simp)) e17)
  have HGEB3 : Hid (w.heap.size ≤ w16.heap.size) := Lib.hid (by have := HX16.out.size; first | omega | (simp only []; omega) | (simp; omega))
  clear e17
  go_wp2_with fail
  refine (pg1 (vwhole a) _ (HG.out.ext HX17.out) (QB.inum HW.out.x) (by omega)).mono ?_; rintro e w18 ⟨rfl, e18⟩
  have HX18 : Hid (Ext w w18) := Lib.hid (HX17.out.trans e18)
  have HB1_18 := Lib.hid (Blk.ext HB1_17.out e18)
  have HB3_18 : Hid (Blk w18 (w16.heap.size) #[.string (qs ((vwhole a).x)), .string (qs ((vwhole a).y)), .string (qs ((vwhole a).z))] 108) := Lib.hid (Blk.ext HB3_17.out e18)
  clear e18
  go_wp2_with fail
  rw [rounds_succ]
  go_wp2_with fail
  refine (parts_c ((vwhole a).y) _ HW.out.y (by omega)).mono ?_; rintro e w19 ⟨rfl, e19⟩
  have HX19 : Hid (Ext w w19) := Lib.hid (HX18.out.trans e19)
  have HB1_19 := Lib.hid (Blk.ext HB1_18.out e19)
  have HB3_19 : Hid (Blk w19 (w16.heap.size) #[.string (qs ((vwhole a).x)), .string (qs ((vwhole a).y)), .string (qs ((vwhole a).z))] 108) := Lib.hid (Blk.ext HB3_18.out e19)
  clear e19
  go_wp2_with fail
  refine (pg2 (vwhole a) _ (HG.out.ext HX19.out) (IB.pn1 HW.out) (QB.inum HW.out.y) (by omega) (by omega)).mono ?_; rintro e w20 ⟨rfl, e20⟩
  have HX20 : Hid (Ext w w20) := Lib.hid (HX19.out.trans e20)
  have HB1_20 := Lib.hid (Blk.ext HB1_19.out e20)
  have HB3_20 : Hid (Blk w20 (w16.heap.size) #[.string (qs ((vwhole a).x)), .string (qs ((vwhole a).y)), .string (qs ((vwhole a).z))] 108) := Lib.hid (Blk.ext HB3_19.out e20)
  clear e20
  go_wp2_with fail
  rw [rounds_succ]
  go_wp2_with fail
  refine (parts_c ((vwhole a).z) _ HW.out.z (by omega)).mono ?_; rintro e w21 ⟨rfl, e21⟩
  have HX21 : Hid (Ext w w21) := Lib.hid (HX20.out.trans e21)
  have HB1_21 := Lib.hid (Blk.ext HB1_20.out e21)
  have HB3_21 : Hid (Blk w21 (w16.heap.size) #[.string (qs ((vwhole a).x)), .string (qs ((vwhole a).y)), .string (qs ((vwhole a).z))] 108) := Lib.hid (Blk.ext HB3_20.out e21)
  clear e21
  go_wp2_with fail
  refine (pg3 (vwhole a) _ (HG.out.ext HX21.out) (IB.pn2 HW.out) (QB.inum HW.out.z) (by omega) (by omega)).mono ?_; rintro e w22 ⟨rfl, e22⟩
  have HX22 : Hid (Ext w w22) := Lib.hid (HX21.out.trans e22)
  have HB1_22 := Lib.hid (Blk.ext HB1_21.out e22)
  have HB3_22 : Hid (Blk w22 (w16.heap.size) #[.string (qs ((vwhole a).x)), .string (qs ((vwhole a).y)), .string (qs ((vwhole a).z))] 108) := Lib.hid (Blk.ext HB3_21.out e22)
  clear e22
  go_wp2_with fail
  rw [rounds_succ]
  go_wp2_with fail
  refine (new_1 (pnum (vwhole a)) HG0.out _ (HG.out.ext HX22.out) (IB.pnum HW.out) (by omega)).mono ?_; rintro e w23 ⟨rfl, e23⟩
  have HX23 : Hid (Ext w w23) := Lib.hid (HX22.out.trans e23)
  have HB1_23 := Lib.hid (Blk.ext HB1_22.out e23)
  have HB3_23 : Hid (Blk w23 (w16.heap.size) #[.string (qs ((vwhole a).x)), .string (qs ((vwhole a).y)), .string (qs ((vwhole a).z))] 108) := Lib.hid (Blk.ext HB3_22.out e23)
  clear e23
  have c3_0 := HB3_23.out.cell 0 rfl
  have c3_1 := HB3_23.out.cell 1 rfl
  have c3_2 := HB3_23.out.cell 2 rfl
  go_wp2_with fail
  refine (vector_c ⟨qs ((vwhole a).x), qs ((vwhole a).y), qs ((vwhole a).z)⟩ _).mono ?_; rintro e w24 ⟨rfl, e24⟩
  have HX24 : Hid (Ext w w24) := Lib.hid (HX23.out.trans e24)
  have HB1_24 := Lib.hid (Blk.ext HB1_23.out e24)
  clear e24 c3_0 c3_1 c3_2
  go_wp2_with fail
  refine (vscaleP a _ (HG.out.ext HX24.out) HW.out HQG.out (by omega) (by omega)).mono ?_; rintro e w25 ⟨rfl, e25⟩
  have HX25 : Hid (Ext w w25) := Lib.hid (HX24.out.trans e25)
  have HB1_25 := Lib.hid (Blk.ext HB1_24.out e25)
  clear e25
  go_wp2_with fail
  refine (result_3 (vprim a).x (vprim a).y (vprim a).z _ HR.out.x HR.out.y HR.out.z).mono ?_; rintro e w26 ⟨rfl, e26⟩
  have HX26 : Hid (Ext w w26) := Lib.hid (HX25.out.trans e26)
  have HB1_26 := Lib.hid (Blk.ext HB1_25.out e26)
  clear e26
  have c1_0 := HB1_26.out.cell 0 rfl
  have f1_0 := HB1_26.out.free 0
  have c1_1 := HB1_26.out.cell 1 rfl
  have f1_1 := HB1_26.out.free 1
  have c1_2 := HB1_26.out.cell 2 rfl
  have f1_2 := HB1_26.out.free 2
  go_wp2_with fail
  refine wp_name (fun W => Ext w W ∧ Blk W (w.heap.size + 1) #[.string (qs ((vprim a).x)), .string (qs ((vprim a).y)), .string (qs ((vprim a).z))] 30) ⟨(((HX26.out.setCell (by have := HGEB1.out; first | omega | (simp only []; omega) | (simp; omega)) _).setCell (by have := HGEB1.out; first | omega | (simp only []; omega) | (simp; omega)) _).setCell (by have := HGEB1.out; first | omega | (simp only []; omega) | (simp; omega)) _), (((HB1_26.out.set 0 (.string (qs ((vprim a).x)))).set 1 (.string (qs ((vprim a).y)))).set 2 (.string (qs ((vprim a).z))))⟩ ?_
  rintro w27 ⟨e27, bB1_27⟩
  have HX27 := Lib.hid e27; have HB1_27 := Lib.hid bB1_27
  clear e27 bB1_27 c1_0 f1_0 c1_1 f1_1 c1_2 f1_2
  have gB1_0 := HB1_27.out.cell 0 rfl
  have gB1_1 := HB1_27.out.cell 1 rfl
  have gB1_2 := HB1_27.out.cell 2 rfl
  refine bodyPost_ret (v := .tuple #[.agg #[.string (qs ((vprim a).x)), .string (qs ((vprim a).y)), .string (qs ((vprim a).z))], .int .i64 0]) (by simp [results, Tryz.results15, go_sem, gB1_0, gB1_1, gB1_2]) rfl ⟨rfl, HX27.out⟩

end Go.Proofs.YtglppcmegocphaaGreatDoor

namespace Go.Proofs.YtglppcmegocphaaGreatDoor
open Go Go.RowKit
theorem res_1 (x z : Rat) (w : World) (h0 : QB 200 x) (h2 : QB 200 z) : Calls Tryz.prog 76 #[.agg #[.string (qs x), .string ⟨#[48]⟩, .string (qs z)]] w (Ret w (.tuple #[.agg #[.string (qs x), .string ⟨#[48]⟩, .string (qs z)], .int .i64 0])) := by
  have := result_3 x 0 z w h0 ((⟨by decide, by decide⟩ : QB 1 0).mono (by decide)) h2; rwa [qs_zero] at this
end Go.Proofs.YtglppcmegocphaaGreatDoor

namespace Go.Proofs.YtglppcmegocphaaGreatDoor
open Go Go.RowKit
set_option maxRecDepth 100000 in
set_option maxHeartbeats 16000000 in
theorem vCommon_1 (p q : Pl) (w : World) (g : Gd w) (hp : VB 200 p.n) (hpc : QB 200 p.c) (hq : VB 200 q.n) (hqc : QB 200 q.c) (hz : ¬ (p.n.x = 0 ∧ p.n.y = 0 ∧ p.n.z = 0)) (hy : ¬ (q.n.x = 0 ∧ q.n.y = 0 ∧ q.n.z = 0)) (hr : VB 200 ⟨p.n.y * q.n.z - p.n.z * q.n.y, p.n.z * q.n.x - p.n.x * q.n.z, p.n.x * q.n.y - p.n.y * q.n.x⟩) (hri : QB 200 ((p.c * q.n.x - p.n.x * q.c) / (p.n.z * q.n.x - p.n.x * q.n.z))) (hrk : QB 200 ((p.n.z * q.c - p.c * q.n.z) / (p.n.z * q.n.x - p.n.x * q.n.z))) (h0 : p.n.y * q.n.z - p.n.z * q.n.y = 0) (h1 : p.n.z * q.n.x - p.n.x * q.n.z ≠ 0) : Calls Tryz.prog 25 #[.agg #[.string (qs p.n.x), .string (qs p.n.y), .string (qs p.n.z), .string (qs p.c)], .agg #[.string (qs q.n.x), .string (qs q.n.y), .string (qs q.n.z), .string (qs q.c)]] w (Ret w (.tuple #[.agg #[.string (qs ((p.n.z * q.c - p.c * q.n.z) / (p.n.z * q.n.x - p.n.x * q.n.z))), .string ⟨#[48]⟩, .string (qs ((p.c * q.n.x - p.n.x * q.c) / (p.n.z * q.n.x - p.n.x * q.n.z)))], .agg #[.string (qs (p.n.y * q.n.z - p.n.z * q.n.y)), .string (qs (p.n.z * q.n.x - p.n.x * q.n.z)), .string (qs (p.n.x * q.n.y - p.n.y * q.n.x))], .int .i64 0])) := by
  have HP := Lib.hid hp
  have HPC := Lib.hid hpc
  have HQ := Lib.hid hq
  have HQC := Lib.hid hqc
  have HZ := Lib.hid hz
  have HY := Lib.hid hy
  have HG := Lib.hid g
  have HR := Lib.hid hr
  have HRI := Lib.hid hri
  have HRK := Lib.hid hrk
  clear hp hpc hq hqc hz hy g hr hri hrk
  have h0_t := qs_is0 h0
  have h1_t := qs_not0 h1
  have H1 := Lib.hid h1
  clear h0 h1
  have ix0 : ∀ W, (Instr.index 122 (.agg #[.string (qs p.n.x), .string (qs p.n.y), .string (qs p.n.z), .string (qs p.c), .string (qs q.n.x), .string (qs q.n.y), .string (qs q.n.z), .string (qs q.c)]) (.int .i64 0)).run Tryz.prog W = .ok (.agg #[.string (qs p.n.x), .string (qs p.n.y), .string (qs p.n.z), .string (qs p.c)]) W := fun W => by kernel_rfl
  have ix1 : ∀ W, (Instr.index 122 (.agg #[.string (qs p.n.x), .string (qs p.n.y), .string (qs p.n.z), .string (qs p.c), .string (qs q.n.x), .string (qs q.n.y), .string (qs q.n.z), .string (qs q.c)]) (.int .i64 1)).run Tryz.prog W = .ok (.agg #[.string (qs q.n.x), .string (qs q.n.y), .string (qs q.n.z), .string (qs q.c)]) W := fun W => by kernel_rfl
  go_enter Tryz.func25, Tryz.ntmps25
  go_wp2_with fail
  refine wp_loop_rounds 3 ?_
  rw [rounds_succ]
  go_wp2_with fail
  refine (vPlane_ok p _ (HG.out.ext ((((((Ext.refl w).alloc _).alloc _).alloc _).alloc _).alloc _)) HP.out HPC.out HZ.out).mono ?_; rintro e w1 ⟨rfl, e1⟩
  have HX1 : Hid (Ext w w1) := Lib.hid (((((((Ext.refl w).alloc _).alloc _).alloc _).alloc _).alloc _).trans e1)
  have HB0_1 : Hid (Blk w1 (w.heap.size) #[.string (qs p.n.x), .string (qs p.n.y), .string (qs p.n.z), .string (qs p.c)] 48) := Lib.hid (Blk.ext (((((Blk.new' (w := _) (cs := #[.string (qs p.n.x), .string (qs p.n.y), .string (qs p.n.z), .string (qs p.c)]) (t := 48) (by first | rfl | (simp only [World.size_alloc]; done) | (simp only [World.size_alloc]; omega) | simp)).alloc _).alloc _).alloc _).alloc _) e1)
  have HB1_1 : Hid (Blk w1 (w.heap.size + 1) #[.string (qs q.n.x), .string (qs q.n.y), .string (qs q.n.z), .string (qs q.c)] 48) := Lib.hid (Blk.ext ((((Blk.new' (w := _) (cs := #[.string (qs q.n.x), .string (qs q.n.y), .string (qs q.n.z), .string (qs q.c)]) (t := 48) (by first | rfl | (simp only [World.size_alloc]; done) | (simp only [World.size_alloc]; omega) | simp)).alloc _).alloc _).alloc _) e1)
  have HB2_1 : Hid (Blk w1 (w.heap.size + 1 + 1) #[.string ⟨#[]⟩, .string ⟨#[]⟩, .string ⟨#[]⟩] 30) := Lib.hid (Blk.ext (((Blk.new' (w := _) (cs := #[.string ⟨#[]⟩, .string ⟨#[]⟩, .string ⟨#[]⟩]) (t := 30) (by first | rfl | (simp only [World.size_alloc]; done) | (simp only [World.size_alloc]; omega) | simp)).alloc _).alloc _) e1)
  have HB3_1 : Hid (Blk w1 (w.heap.size + 1 + 1 + 1) #[.string ⟨#[]⟩, .string ⟨#[]⟩, .string ⟨#[]⟩] 30) := Lib.hid (Blk.ext ((Blk.new' (w := _) (cs := #[.string ⟨#[]⟩, .string ⟨#[]⟩, .string ⟨#[]⟩]) (t := 30) (by first | rfl | (simp only [World.size_alloc]; done) | (simp only [World.size_alloc]; omega) | simp)).alloc _) e1)
  have HGEB0 : Hid (w.heap.size ≤ w.heap.size) := Lib.hid (by first | omega | (simp only []; omega) | (simp; omega))
  have HGEB1 : Hid (w.heap.size ≤ w.heap.size + 1) := Lib.hid (by first | omega | (simp only []; omega) | (simp; omega))
  have HGEB2 : Hid (w.heap.size ≤ w.heap.size + 1 + 1) := Lib.hid (by first | omega | (simp only []; omega) | (simp; omega))
  have HGEB3 : Hid (w.heap.size ≤ w.heap.size + 1 + 1 + 1) := Lib.hid (by first | omega | (simp only []; omega) | (simp; omega))
  clear e1
  go_wp2_with fail
  rw [rounds_succ]
  go_wp2_with fail
  refine (vPlane_ok q _ (HG.out.ext (HX1.out.alloc _)) HQ.out HQC.out HY.out).mono ?_; rintro e w2 ⟨rfl, e2⟩
  have HX2 : Hid (Ext w w2) := Lib.hid ((HX1.out.alloc _).trans e2)
  have HB0_2 : Hid (Blk w2 (w.heap.size) #[.string (qs p.n.x), .string (qs p.n.y), .string (qs p.n.z), .string (qs p.c)] 48) := Lib.hid (Blk.ext (HB0_1.out.alloc _) e2)
  have HB1_2 : Hid (Blk w2 (w.heap.size + 1) #[.string (qs q.n.x), .string (qs q.n.y), .string (qs q.n.z), .string (qs q.c)] 48) := Lib.hid (Blk.ext (HB1_1.out.alloc _) e2)
  have HB2_2 : Hid (Blk w2 (w.heap.size + 1 + 1) #[.string ⟨#[]⟩, .string ⟨#[]⟩, .string ⟨#[]⟩] 30) := Lib.hid (Blk.ext (HB2_1.out.alloc _) e2)
  have HB3_2 : Hid (Blk w2 (w.heap.size + 1 + 1 + 1) #[.string ⟨#[]⟩, .string ⟨#[]⟩, .string ⟨#[]⟩] 30) := Lib.hid (Blk.ext (HB3_1.out.alloc _) e2)
  clear e2
  go_wp2_with fail
  rw [rounds_succ]
  have c0_0 := HB0_2.out.cell 0 rfl
  have c0_1 := HB0_2.out.cell 1 rfl
  have c0_2 := HB0_2.out.cell 2 rfl
  have c1_0 := HB1_2.out.cell 0 rfl
  have c1_1 := HB1_2.out.cell 1 rfl
  have c1_2 := HB1_2.out.cell 2 rfl
  go_wp2_with fail
  refine (vcross0_c p.n q.n _ (HG.out.ext HX2.out) HP.out HQ.out (by omega) (by omega)).mono ?_; rintro e w3 ⟨rfl, e3⟩
  have HX3 : Hid (Ext w w3) := Lib.hid (HX2.out.trans e3)
  have HB0_3 := Lib.hid (Blk.ext HB0_2.out e3)
  have HB1_3 := Lib.hid (Blk.ext HB1_2.out e3)
  have HB2_3 := Lib.hid (Blk.ext HB2_2.out e3)
  have HB3_3 := Lib.hid (Blk.ext HB3_2.out e3)
  clear e3 c0_0 c0_1 c0_2 c1_0 c1_1 c1_2
  go_wp2_with fail
  refine ((list_e ⟨qs (p.n.y * q.n.z - p.n.z * q.n.y), qs (p.n.z * q.n.x - p.n.x * q.n.z), qs (p.n.x * q.n.y - p.n.y * q.n.x)⟩ _).mono (fun _ _ h => (⟨h.1, h.2 ▸ ((Ext.refl _).alloc _).alloc _⟩ : Ret _ _ _ _))).mono ?_; rintro e w4 ⟨rfl, e4⟩
  have HX4 : Hid (Ext w w4) := Lib.hid (HX3.out.trans e4)
  have HB0_4 := Lib.hid (Blk.ext HB0_3.out e4)
  have HB1_4 := Lib.hid (Blk.ext HB1_3.out e4)
  have HB2_4 := Lib.hid (Blk.ext HB2_3.out e4)
  have HB3_4 := Lib.hid (Blk.ext HB3_3.out e4)
  clear e4
  go_wp2_with fail
  refine wp_loop_rounds 3 ?_
  rw [rounds_succ]
  go_wp2_with fail
  rw [rounds_succ]
  go_wp2_with fail
  refine wp_name (fun W => Ext w W ∧ Blk W (w.heap.size) #[.string (qs p.n.x), .string (qs p.n.y), .string (qs p.n.z), .string (qs p.c)] 48 ∧ Blk W (w.heap.size + 1) #[.string (qs q.n.x), .string (qs q.n.y), .string (qs q.n.z), .string (qs q.c)] 48 ∧ Blk W (w.heap.size + 1 + 1) #[.string ⟨#[]⟩, .string ⟨#[]⟩, .string ⟨#[]⟩] 30 ∧ Blk W (w.heap.size + 1 + 1 + 1) #[.string ⟨#[]⟩, .string ⟨#[]⟩, .string ⟨#[]⟩] 30 ∧ Blk W (w4.heap.size) #[.string (qs (p.n.y * q.n.z - p.n.z * q.n.y)), .string (qs (p.n.z * q.n.x - p.n.x * q.n.z)), .string (qs (p.n.x * q.n.y - p.n.y * q.n.x))] 108) ⟨(HX4.out.alloc _), (HB0_4.out.alloc _), (HB1_4.out.alloc _), (HB2_4.out.alloc _), (HB3_4.out.alloc _), (Blk.new' (w := _) (cs := #[.string (qs (p.n.y * q.n.z - p.n.z * q.n.y)), .string (qs (p.n.z * q.n.x - p.n.x * q.n.z)), .string (qs (p.n.x * q.n.y - p.n.y * q.n.x))]) (t := 108) (by first | rfl | (simp only [World.size_alloc]; done) | (simp only [World.size_alloc]; omega) | simp))⟩ ?_
  rintro w5 ⟨e5, bB0_5, bB1_5, bB2_5, bB3_5, bB6_5⟩
  have HX5 := Lib.hid e5; have HB0_5 := Lib.hid bB0_5; have HB1_5 := Lib.hid bB1_5; have HB2_5 := Lib.hid bB2_5; have HB3_5 := Lib.hid bB3_5; have HB6_5 := Lib.hid bB6_5
  have HGEB6 : Hid (w.heap.size ≤ w4.heap.size) := Lib.hid (by have := HX4.out.size; first | omega | (simp only []; omega) | (simp; omega))
  clear e5 bB0_5 bB1_5 bB2_5 bB3_5 bB6_5
  have hS5 : w5.cell? ⟨w.heap.size, 0, none⟩ = some (.string (qs p.n.x)) ∧ w5.cell? ⟨w.heap.size, 1, none⟩ = some (.string (qs p.n.y)) ∧ w5.cell? ⟨w.heap.size, 2, none⟩ = some (.string (qs p.n.z)) ∧ w5.cell? ⟨w.heap.size + 1, 0, none⟩ = some (.string (qs q.n.x)) ∧ w5.cell? ⟨w.heap.size + 1, 1, none⟩ = some (.string (qs q.n.y)) ∧ w5.cell? ⟨w.heap.size + 1, 2, none⟩ = some (.string (qs q.n.z)) := ⟨HB0_5.out.cell 0 rfl, HB0_5.out.cell 1 rfl, HB0_5.out.cell 2 rfl, HB1_5.out.cell 0 rfl, HB1_5.out.cell 1 rfl, HB1_5.out.cell 2 rfl⟩
  have HS5 := Lib.hid hS5; clear hS5
  go_cut [14, 15] from 57 to 62 (fun p14 p15 wx => ∃ i7 i8 : Nat, p14 = .pointer (some ⟨i7, 0, none⟩) ∧ p15 = .pointer (some ⟨i8, 0, none⟩) ∧ w5.heap.size ≤ i7 ∧ w5.heap.size ≤ i8 ∧ i7 ≠ i8 ∧ Ext w5 wx ∧ Blk wx i7 #[.string (qs p.n.x), .string (qs p.n.y), .string (qs p.n.z)] 108 ∧ Blk wx i8 #[.string (qs q.n.x), .string (qs q.n.y), .string (qs q.n.z)] 108)
  case first =>
    go_region_held3 (fun w' => w'.cell? ⟨w.heap.size, 0, none⟩ = some (.string (qs p.n.x)) ∧ w'.cell? ⟨w.heap.size, 1, none⟩ = some (.string (qs p.n.y)) ∧ w'.cell? ⟨w.heap.size, 2, none⟩ = some (.string (qs p.n.z)) ∧ w'.cell? ⟨w.heap.size + 1, 0, none⟩ = some (.string (qs q.n.x)) ∧ w'.cell? ⟨w.heap.size + 1, 1, none⟩ = some (.string (qs q.n.y)) ∧ w'.cell? ⟨w.heap.size + 1, 2, none⟩ = some (.string (qs q.n.z)))
      ((exact keepsH6 (by repeat (first | assumption | exact Ext.refl _ | apply Ext.drew | apply Ext.alloc | (refine Ext.setCell ?_ (by first | omega | (simp only []; omega) | (simp; omega)) _) | (refine Ext.trans ?_ (by assumption)))) HS5.out)) (first
      | (go_at_call 69; ((with_reducible refine (list_e ⟨qs p.n.x, qs p.n.y, qs p.n.z⟩ _).mono ?_); rintro e _ ⟨rfl, rfl⟩))
      | (go_at_call 69; ((with_reducible refine (list_e ⟨qs q.n.x, qs q.n.y, qs q.n.z⟩ _).mono ?_); rintro e _ ⟨rfl, rfl⟩)))
    all_goals (go_wp2_with fail; go_meet)
    all_goals (refine ⟨_, _, rfl, rfl, by first | omega | (simp; omega), by first | omega | (simp; omega), by first | omega | (simp; omega), (by repeat (first | assumption | exact Ext.refl _ | apply Ext.drew | apply Ext.alloc | (refine Ext.setCell ?_ (by first | omega | (simp only []; omega) | (simp; omega)) _) | (refine Ext.trans ?_ (by assumption)))), ?_, ?_⟩)
    all_goals (repeat (first | assumption | (refine Blk.new' ?_; first | rfl | (simp only [World.size_alloc]; done) | (simp only [World.size_alloc]; omega)) | apply Blk.alloc | apply Blk.drew | (exact Blk.fill3 (by assumption)) | (refine Blk.ext ?_ (by assumption))))
  obtain ⟨i7, i8, rfl, rfl, hgeB7, hgeB8, hne10, e6, bB7, bB8⟩ := hcut
  rename World => w6
  have HX6 : Hid (Ext w w6) := Lib.hid (HX5.out.trans e6)
  have HB0_6 := Lib.hid (HB0_5.out.ext e6)
  have HB1_6 := Lib.hid (HB1_5.out.ext e6)
  have HB2_6 := Lib.hid (HB2_5.out.ext e6)
  have HB3_6 := Lib.hid (HB3_5.out.ext e6)
  have HB6_6 := Lib.hid (HB6_5.out.ext e6)
  have HB7_6 := Lib.hid bB7; have HGEB7 : Hid (w.heap.size ≤ i7) := Lib.hid (Nat.le_trans HX5.out.size hgeB7)
  have HB8_6 := Lib.hid bB8; have HGEB8 : Hid (w.heap.size ≤ i8) := Lib.hid (Nat.le_trans HX5.out.size hgeB8)
  have HNEB0B7 : Hid (w.heap.size ≠ i7) := Lib.hid (by have := HB0_5.out.lt; omega)
  have HNEB0B8 : Hid (w.heap.size ≠ i8) := Lib.hid (by have := HB0_5.out.lt; omega)
  have HNEB1B7 : Hid (w.heap.size + 1 ≠ i7) := Lib.hid (by have := HB1_5.out.lt; omega)
  have HNEB1B8 : Hid (w.heap.size + 1 ≠ i8) := Lib.hid (by have := HB1_5.out.lt; omega)
  have HNEB2B7 : Hid (w.heap.size + 1 + 1 ≠ i7) := Lib.hid (by have := HB2_5.out.lt; omega)
  have HNEB2B8 : Hid (w.heap.size + 1 + 1 ≠ i8) := Lib.hid (by have := HB2_5.out.lt; omega)
  have HNEB3B7 : Hid (w.heap.size + 1 + 1 + 1 ≠ i7) := Lib.hid (by have := HB3_5.out.lt; omega)
  have HNEB3B8 : Hid (w.heap.size + 1 + 1 + 1 ≠ i8) := Lib.hid (by have := HB3_5.out.lt; omega)
  have HNEB6B7 : Hid (w4.heap.size ≠ i7) := Lib.hid (by have := HB6_5.out.lt; omega)
  have HNEB6B8 : Hid (w4.heap.size ≠ i8) := Lib.hid (by have := HB6_5.out.lt; omega)
  have HNEB7B8 := Lib.hid hne10
  clear hgeB7 hgeB8 hne10 e6 bB7 bB8
  go_wp2_with fail
  refine wp_name (fun W => Ext w W ∧ Blk W (w.heap.size) #[.string (qs p.n.x), .string (qs p.n.y), .string (qs p.n.z), .string (qs p.c)] 48 ∧ Blk W (w.heap.size + 1) #[.string (qs q.n.x), .string (qs q.n.y), .string (qs q.n.z), .string (qs q.c)] 48 ∧ Blk W (w.heap.size + 1 + 1) #[.string ⟨#[]⟩, .string ⟨#[]⟩, .string ⟨#[]⟩] 30 ∧ Blk W (w.heap.size + 1 + 1 + 1) #[.string ⟨#[]⟩, .string ⟨#[]⟩, .string ⟨#[]⟩] 30 ∧ Blk W (w4.heap.size) #[.string (qs (p.n.y * q.n.z - p.n.z * q.n.y)), .string (qs (p.n.z * q.n.x - p.n.x * q.n.z)), .string (qs (p.n.x * q.n.y - p.n.y * q.n.x))] 108 ∧ Blk W (i7) #[.string (qs p.n.x), .string (qs p.n.y), .string (qs p.n.z)] 108 ∧ Blk W (i8) #[.string (qs q.n.x), .string (qs q.n.y), .string (qs q.n.z)] 108 ∧ Blk W (w6.heap.size) #[.string ⟨#[]⟩, .string ⟨#[48]⟩, .string ⟨#[]⟩] 108) ⟨(HX6.out.alloc _), (HB0_6.out.alloc _), (HB1_6.out.alloc _), (HB2_6.out.alloc _), (HB3_6.out.alloc _), (HB6_6.out.alloc _), (HB7_6.out.alloc _), (HB8_6.out.alloc _), (Blk.new' (w := _) (cs := #[.string ⟨#[]⟩, .string ⟨#[48]⟩, .string ⟨#[]⟩]) (t := 108) (by first | rfl | (simp only [World.size_alloc]; done) | (simp only [World.size_alloc]; omega) | simp))⟩ ?_
  rintro w7 ⟨e7, bB0_7, bB1_7, bB2_7, bB3_7, bB6_7, bB7_7, bB8_7, bB9_7⟩
  have HX7 := Lib.hid e7; have HB0_7 := Lib.hid bB0_7; have HB1_7 := Lib.hid bB1_7; have HB2_7 := Lib.hid bB2_7; have HB3_7 := Lib.hid bB3_7; have HB6_7 := Lib.hid bB6_7; have HB7_7 := Lib.hid bB7_7; have HB8_7 := Lib.hid bB8_7; have HB9_7 := Lib.hid bB9_7
  have HGEB9 : Hid (w.heap.size ≤ w6.heap.size) := Lib.hid (by have := HX6.out.size; first | omega | (simp only []; omega) | (simp; omega))
  clear e7 bB0_7 bB1_7 bB2_7 bB3_7 bB6_7 bB7_7 bB8_7 bB9_7
  have hS7 : w7.cell? ⟨w.heap.size, 3, none⟩ = some (.string (qs p.c)) ∧ w7.cell? ⟨i7, 0, none⟩ = some (.string (qs p.n.x)) ∧ w7.cell? ⟨w.heap.size + 1, 3, none⟩ = some (.string (qs q.c)) ∧ w7.cell? ⟨i8, 0, none⟩ = some (.string (qs q.n.x)) ∧ w7.cell? ⟨w4.heap.size, 1, none⟩ = some (.string (qs (p.n.z * q.n.x - p.n.x * q.n.z))) := ⟨HB0_7.out.cell 3 rfl, HB7_7.out.cell 0 rfl, HB1_7.out.cell 3 rfl, HB8_7.out.cell 0 rfl, HB6_7.out.cell 1 rfl⟩
  have HS7 := Lib.hid hS7; clear hS7
  go_region_held3 (fun w' => w'.cell? ⟨w.heap.size, 3, none⟩ = some (.string (qs p.c)) ∧ w'.cell? ⟨i7, 0, none⟩ = some (.string (qs p.n.x)) ∧ w'.cell? ⟨w.heap.size + 1, 3, none⟩ = some (.string (qs q.c)) ∧ w'.cell? ⟨i8, 0, none⟩ = some (.string (qs q.n.x)) ∧ w'.cell? ⟨w4.heap.size, 1, none⟩ = some (.string (qs (p.n.z * q.n.x - p.n.x * q.n.z))))
    (((try simp only [cell_set_ne (show w.heap.size ≠ w6.heap.size from by have := HB0_6.out.lt; first | omega | (simp only []; omega) | (simp; omega)), cell_set_ne (show i7 ≠ w6.heap.size from by have := HB7_6.out.lt; first | omega | (simp only []; omega) | (simp; omega)), cell_set_ne (show w.heap.size + 1 ≠ w6.heap.size from by have := HB1_6.out.lt; first | omega | (simp only []; omega) | (simp; omega)), cell_set_ne (show i8 ≠ w6.heap.size from by have := HB8_6.out.lt; first | omega | (simp only []; omega) | (simp; omega)), cell_set_ne (show w4.heap.size ≠ w6.heap.size from by have := HB6_6.out.lt; first | omega | (simp only []; omega) | (simp; omega))]); exact keepsH5 (by repeat (first | assumption | exact Ext.refl _ | apply Ext.drew | apply Ext.alloc | (refine Ext.setCell ?_ (by first | omega | (simp only []; omega) | (simp; omega)) _) | (refine Ext.trans ?_ (by assumption)))) HS7.out)) ((first
      | (go_at_call 85; ((with_reducible refine (vminor_c p.c p.n.x q.c q.n.x _ (HG.out.ext (HX7.out.trans (by repeat (first | assumption | exact Ext.refl _ | apply Ext.drew | apply Ext.alloc | (refine Ext.setCell ?_ (by first | omega | (simp only []; omega) | (simp; omega)) _) | (refine Ext.trans ?_ (by assumption)))))) HPC.out HP.out.x HQC.out HQ.out.x (by omega) (by omega) (by omega) (by omega)).mono ?_); rintro e w8 ⟨rfl, e8⟩))
      | (go_at_call 84; ((with_reducible refine (rdiv_c (p.c * q.n.x - p.n.x * q.c) (p.n.z * q.n.x - p.n.x * q.n.z) _ (HG.out.ext (HX7.out.trans (by repeat (first | assumption | exact Ext.refl _ | apply Ext.drew | apply Ext.alloc | (refine Ext.setCell ?_ (by first | omega | (simp only []; omega) | (simp; omega)) _) | (refine Ext.trans ?_ (by assumption)))))) ((HPC.out.mul HQ.out.x).sub (HP.out.x.mul HQC.out)) ((HP.out.z.mul HQ.out.x).sub (HP.out.x.mul HQ.out.z)) (by omega) (by omega) (by omega) H1.out).mono ?_); rintro e w9 ⟨rfl, e9⟩; have RB9 := Blk.ext HB9_7.out (w' := w9) (by repeat (first | assumption | exact Ext.refl _ | apply Ext.drew | (refine Ext.trans ?_ (by assumption)))); have cB9_2 := RB9.cell 2 rfl; have fB9_2 := RB9.free 2; have HRB9 := Lib.hid RB9; clear RB9))))
  refine wp_name (fun W => Ext w W ∧ Blk W (w.heap.size) #[.string (qs p.n.x), .string (qs p.n.y), .string (qs p.n.z), .string (qs p.c)] 48 ∧ Blk W (w.heap.size + 1) #[.string (qs q.n.x), .string (qs q.n.y), .string (qs q.n.z), .string (qs q.c)] 48 ∧ Blk W (w.heap.size + 1 + 1) #[.string ⟨#[]⟩, .string ⟨#[]⟩, .string ⟨#[]⟩] 30 ∧ Blk W (w.heap.size + 1 + 1 + 1) #[.string ⟨#[]⟩, .string ⟨#[]⟩, .string ⟨#[]⟩] 30 ∧ Blk W (w4.heap.size) #[.string (qs (p.n.y * q.n.z - p.n.z * q.n.y)), .string (qs (p.n.z * q.n.x - p.n.x * q.n.z)), .string (qs (p.n.x * q.n.y - p.n.y * q.n.x))] 108 ∧ Blk W (i7) #[.string (qs p.n.x), .string (qs p.n.y), .string (qs p.n.z)] 108 ∧ Blk W (i8) #[.string (qs q.n.x), .string (qs q.n.y), .string (qs q.n.z)] 108 ∧ Blk W (w6.heap.size) #[.string ⟨#[]⟩, .string ⟨#[48]⟩, .string (qs ((p.c * q.n.x - p.n.x * q.c) / (p.n.z * q.n.x - p.n.x * q.n.z)))] 108) ⟨((HX7.out.trans (((Ext.refl _).drew.trans e8).trans e9)).setCell (by have := HGEB9.out; first | omega | (simp only []; omega) | (simp; omega)) _), ((Blk.ext HB0_7.out (((Ext.refl _).drew.trans e8).trans e9)).other (a := ⟨w6.heap.size, 2, none⟩) _ (by have := HB0_6.out.lt; first | omega | (simp only []; omega) | (simp; omega))), ((Blk.ext HB1_7.out (((Ext.refl _).drew.trans e8).trans e9)).other (a := ⟨w6.heap.size, 2, none⟩) _ (by have := HB1_6.out.lt; first | omega | (simp only []; omega) | (simp; omega))), ((Blk.ext HB2_7.out (((Ext.refl _).drew.trans e8).trans e9)).other (a := ⟨w6.heap.size, 2, none⟩) _ (by have := HB2_6.out.lt; first | omega | (simp only []; omega) | (simp; omega))), ((Blk.ext HB3_7.out (((Ext.refl _).drew.trans e8).trans e9)).other (a := ⟨w6.heap.size, 2, none⟩) _ (by have := HB3_6.out.lt; first | omega | (simp only []; omega) | (simp; omega))), ((Blk.ext HB6_7.out (((Ext.refl _).drew.trans e8).trans e9)).other (a := ⟨w6.heap.size, 2, none⟩) _ (by have := HB6_6.out.lt; first | omega | (simp only []; omega) | (simp; omega))), ((Blk.ext HB7_7.out (((Ext.refl _).drew.trans e8).trans e9)).other (a := ⟨w6.heap.size, 2, none⟩) _ (by have := HB7_6.out.lt; first | omega | (simp only []; omega) | (simp; omega))), ((Blk.ext HB8_7.out (((Ext.refl _).drew.trans e8).trans e9)).other (a := ⟨w6.heap.size, 2, none⟩) _ (by have := HB8_6.out.lt; first | omega | (simp only []; omega) | (simp; omega))), ((Blk.ext HB9_7.out (((Ext.refl _).drew.trans e8).trans e9)).set 2 (.string (qs ((p.c * q.n.x - p.n.x * q.c) / (p.n.z * q.n.x - p.n.x * q.n.z)))))⟩ ?_
  clear cB9_2 fB9_2
  rintro w10 ⟨e10, bB0_10, bB1_10, bB2_10, bB3_10, bB6_10, bB7_10, bB8_10, bB9_10⟩
  have HX10 := Lib.hid e10; have HB0_10 := Lib.hid bB0_10; have HB1_10 := Lib.hid bB1_10; have HB2_10 := Lib.hid bB2_10; have HB3_10 := Lib.hid bB3_10; have HB6_10 := Lib.hid bB6_10; have HB7_10 := Lib.hid bB7_10; have HB8_10 := Lib.hid bB8_10; have HB9_10 := Lib.hid bB9_10
  clear e10 bB0_10 bB1_10 bB2_10 bB3_10 bB6_10 bB7_10 bB8_10 bB9_10
  go_wp2_with fail
  refine wp_name (fun W => Ext w W ∧ Blk W (w.heap.size) #[.string (qs p.n.x), .string (qs p.n.y), .string (qs p.n.z), .string (qs p.c)] 48 ∧ Blk W (w.heap.size + 1) #[.string (qs q.n.x), .string (qs q.n.y), .string (qs q.n.z), .string (qs q.c)] 48 ∧ Blk W (w.heap.size + 1 + 1) #[.string ⟨#[]⟩, .string ⟨#[]⟩, .string ⟨#[]⟩] 30 ∧ Blk W (w.heap.size + 1 + 1 + 1) #[.string ⟨#[]⟩, .string ⟨#[]⟩, .string ⟨#[]⟩] 30 ∧ Blk W (w4.heap.size) #[.string (qs (p.n.y * q.n.z - p.n.z * q.n.y)), .string (qs (p.n.z * q.n.x - p.n.x * q.n.z)), .string (qs (p.n.x * q.n.y - p.n.y * q.n.x))] 108 ∧ Blk W (i7) #[.string (qs p.n.x), .string (qs p.n.y), .string (qs p.n.z)] 108 ∧ Blk W (i8) #[.string (qs q.n.x), .string (qs q.n.y), .string (qs q.n.z)] 108 ∧ Blk W (w6.heap.size) #[.string ⟨#[]⟩, .string ⟨#[48]⟩, .string (qs ((p.c * q.n.x - p.n.x * q.c) / (p.n.z * q.n.x - p.n.x * q.n.z)))] 108) ⟨HX10.out, HB0_10.out, HB1_10.out, HB2_10.out, HB3_10.out, HB6_10.out, HB7_10.out, HB8_10.out, HB9_10.out⟩ ?_
  rintro w11 ⟨e11, bB0_11, bB1_11, bB2_11, bB3_11, bB6_11, bB7_11, bB8_11, bB9_11⟩
  have HX11 := Lib.hid e11; have HB0_11 := Lib.hid bB0_11; have HB1_11 := Lib.hid bB1_11; have HB2_11 := Lib.hid bB2_11; have HB3_11 := Lib.hid bB3_11; have HB6_11 := Lib.hid bB6_11; have HB7_11 := Lib.hid bB7_11; have HB8_11 := Lib.hid bB8_11; have HB9_11 := Lib.hid bB9_11
  clear e11 bB0_11 bB1_11 bB2_11 bB3_11 bB6_11 bB7_11 bB8_11 bB9_11
  have hS11 : w11.cell? ⟨i7, 2, none⟩ = some (.string (qs p.n.z)) ∧ w11.cell? ⟨w.heap.size, 3, none⟩ = some (.string (qs p.c)) ∧ w11.cell? ⟨i8, 2, none⟩ = some (.string (qs q.n.z)) ∧ w11.cell? ⟨w.heap.size + 1, 3, none⟩ = some (.string (qs q.c)) ∧ w11.cell? ⟨w4.heap.size, 1, none⟩ = some (.string (qs (p.n.z * q.n.x - p.n.x * q.n.z))) := ⟨HB7_11.out.cell 2 rfl, HB0_11.out.cell 3 rfl, HB8_11.out.cell 2 rfl, HB1_11.out.cell 3 rfl, HB6_11.out.cell 1 rfl⟩
  have HS11 := Lib.hid hS11; clear hS11
  go_region_held3 (fun w' => w'.cell? ⟨i7, 2, none⟩ = some (.string (qs p.n.z)) ∧ w'.cell? ⟨w.heap.size, 3, none⟩ = some (.string (qs p.c)) ∧ w'.cell? ⟨i8, 2, none⟩ = some (.string (qs q.n.z)) ∧ w'.cell? ⟨w.heap.size + 1, 3, none⟩ = some (.string (qs q.c)) ∧ w'.cell? ⟨w4.heap.size, 1, none⟩ = some (.string (qs (p.n.z * q.n.x - p.n.x * q.n.z))))
    (((try simp only [cell_set_ne (show i7 ≠ w6.heap.size from by have := HB7_6.out.lt; first | omega | (simp only []; omega) | (simp; omega)), cell_set_ne (show w.heap.size ≠ w6.heap.size from by have := HB0_6.out.lt; first | omega | (simp only []; omega) | (simp; omega)), cell_set_ne (show i8 ≠ w6.heap.size from by have := HB8_6.out.lt; first | omega | (simp only []; omega) | (simp; omega)), cell_set_ne (show w.heap.size + 1 ≠ w6.heap.size from by have := HB1_6.out.lt; first | omega | (simp only []; omega) | (simp; omega)), cell_set_ne (show w4.heap.size ≠ w6.heap.size from by have := HB6_6.out.lt; first | omega | (simp only []; omega) | (simp; omega))]); exact keepsH5 (by repeat (first | assumption | exact Ext.refl _ | apply Ext.drew | apply Ext.alloc | (refine Ext.setCell ?_ (by first | omega | (simp only []; omega) | (simp; omega)) _) | (refine Ext.trans ?_ (by assumption)))) HS11.out)) ((first
      | (go_at_call 85; ((with_reducible refine (vminor_c p.n.z p.c q.n.z q.c _ (HG.out.ext (HX11.out.trans (by repeat (first | assumption | exact Ext.refl _ | apply Ext.drew | apply Ext.alloc | (refine Ext.setCell ?_ (by first | omega | (simp only []; omega) | (simp; omega)) _) | (refine Ext.trans ?_ (by assumption)))))) HP.out.z HPC.out HQ.out.z HQC.out (by omega) (by omega) (by omega) (by omega)).mono ?_); rintro e w12 ⟨rfl, e12⟩))
      | (go_at_call 84; ((with_reducible refine (rdiv_c (p.n.z * q.c - p.c * q.n.z) (p.n.z * q.n.x - p.n.x * q.n.z) _ (HG.out.ext (HX11.out.trans (by repeat (first | assumption | exact Ext.refl _ | apply Ext.drew | apply Ext.alloc | (refine Ext.setCell ?_ (by first | omega | (simp only []; omega) | (simp; omega)) _) | (refine Ext.trans ?_ (by assumption)))))) ((HP.out.z.mul HQC.out).sub (HPC.out.mul HQ.out.z)) ((HP.out.z.mul HQ.out.x).sub (HP.out.x.mul HQ.out.z)) (by omega) (by omega) (by omega) H1.out).mono ?_); rintro e w13 ⟨rfl, e13⟩; have RB9 := Blk.ext HB9_11.out (w' := w13) (by repeat (first | assumption | exact Ext.refl _ | apply Ext.drew | (refine Ext.trans ?_ (by assumption)))); have cB9_0 := RB9.cell 0 rfl; have fB9_0 := RB9.free 0; have HRB9 := Lib.hid RB9; clear RB9))))
  refine wp_name (fun W => Ext w W ∧ Blk W (w.heap.size + 1 + 1) #[.string ⟨#[]⟩, .string ⟨#[]⟩, .string ⟨#[]⟩] 30 ∧ Blk W (w.heap.size + 1 + 1 + 1) #[.string ⟨#[]⟩, .string ⟨#[]⟩, .string ⟨#[]⟩] 30 ∧ Blk W (w4.heap.size) #[.string (qs (p.n.y * q.n.z - p.n.z * q.n.y)), .string (qs (p.n.z * q.n.x - p.n.x * q.n.z)), .string (qs (p.n.x * q.n.y - p.n.y * q.n.x))] 108 ∧ Blk W (w6.heap.size) #[.string (qs ((p.n.z * q.c - p.c * q.n.z) / (p.n.z * q.n.x - p.n.x * q.n.z))), .string ⟨#[48]⟩, .string (qs ((p.c * q.n.x - p.n.x * q.c) / (p.n.z * q.n.x - p.n.x * q.n.z)))] 108) ⟨((HX11.out.trans (((Ext.refl _).drew.trans e12).trans e13)).setCell (by have := HGEB9.out; first | omega | (simp only []; omega) | (simp; omega)) _), ((Blk.ext HB2_11.out (((Ext.refl _).drew.trans e12).trans e13)).other (a := ⟨w6.heap.size, 0, none⟩) _ (by have := HB2_6.out.lt; first | omega | (simp only []; omega) | (simp; omega))), ((Blk.ext HB3_11.out (((Ext.refl _).drew.trans e12).trans e13)).other (a := ⟨w6.heap.size, 0, none⟩) _ (by have := HB3_6.out.lt; first | omega | (simp only []; omega) | (simp; omega))), ((Blk.ext HB6_11.out (((Ext.refl _).drew.trans e12).trans e13)).other (a := ⟨w6.heap.size, 0, none⟩) _ (by have := HB6_6.out.lt; first | omega | (simp only []; omega) | (simp; omega))), ((Blk.ext HB9_11.out (((Ext.refl _).drew.trans e12).trans e13)).set 0 (.string (qs ((p.n.z * q.c - p.c * q.n.z) / (p.n.z * q.n.x - p.n.x * q.n.z)))))⟩ ?_
  clear cB9_0 fB9_0
  rintro w14 ⟨e14, bB2_14, bB3_14, bB6_14, bB9_14⟩
  have HX14 := Lib.hid e14; have HB2_14 := Lib.hid bB2_14; have HB3_14 := Lib.hid bB3_14; have HB6_14 := Lib.hid bB6_14; have HB9_14 := Lib.hid bB9_14
  clear e14 bB2_14 bB3_14 bB6_14 bB9_14
  have c9_0 := HB9_14.out.cell 0 rfl
  have c9_1 := HB9_14.out.cell 1 rfl
  have c9_2 := HB9_14.out.cell 2 rfl
  go_wp2_with fail
  refine (res_1 ((p.n.z * q.c - p.c * q.n.z) / (p.n.z * q.n.x - p.n.x * q.n.z)) ((p.c * q.n.x - p.n.x * q.c) / (p.n.z * q.n.x - p.n.x * q.n.z)) _ HRK.out HRI.out).mono ?_; rintro e w15 ⟨rfl, e15⟩
  have HX15 : Hid (Ext w w15) := Lib.hid (HX14.out.trans e15)
  have HB2_15 := Lib.hid (Blk.ext HB2_14.out e15)
  have HB3_15 := Lib.hid (Blk.ext HB3_14.out e15)
  have HB6_15 := Lib.hid (Blk.ext HB6_14.out e15)
  clear e15 c9_0 c9_1 c9_2
  have c2_0 := HB2_15.out.cell 0 rfl
  have f2_0 := HB2_15.out.free 0
  have c2_1 := HB2_15.out.cell 1 rfl
  have f2_1 := HB2_15.out.free 1
  have c2_2 := HB2_15.out.cell 2 rfl
  have f2_2 := HB2_15.out.free 2
  go_upto_region 23 with fail
  refine wp_name (fun W => Ext w W ∧ Blk W (w.heap.size + 1 + 1) #[.string (qs ((p.n.z * q.c - p.c * q.n.z) / (p.n.z * q.n.x - p.n.x * q.n.z))), .string ⟨#[48]⟩, .string (qs ((p.c * q.n.x - p.n.x * q.c) / (p.n.z * q.n.x - p.n.x * q.n.z)))] 30 ∧ Blk W (w.heap.size + 1 + 1 + 1) #[.string ⟨#[]⟩, .string ⟨#[]⟩, .string ⟨#[]⟩] 30 ∧ Blk W (w4.heap.size) #[.string (qs (p.n.y * q.n.z - p.n.z * q.n.y)), .string (qs (p.n.z * q.n.x - p.n.x * q.n.z)), .string (qs (p.n.x * q.n.y - p.n.y * q.n.x))] 108) ⟨(((HX15.out.setCell (by have := HGEB2.out; first | omega | (simp only []; omega) | (simp; omega)) _).setCell (by have := HGEB2.out; first | omega | (simp only []; omega) | (simp; omega)) _).setCell (by have := HGEB2.out; first | omega | (simp only []; omega) | (simp; omega)) _), (((HB2_15.out.set 0 (.string (qs ((p.n.z * q.c - p.c * q.n.z) / (p.n.z * q.n.x - p.n.x * q.n.z))))).set 1 (.string ⟨#[48]⟩)).set 2 (.string (qs ((p.c * q.n.x - p.n.x * q.c) / (p.n.z * q.n.x - p.n.x * q.n.z))))), (((HB3_15.out.other (a := ⟨w.heap.size + 1 + 1, 0, none⟩) _ (by first | omega | (simp only []; omega) | (simp; omega))).other (a := ⟨w.heap.size + 1 + 1, 1, none⟩) _ (by first | omega | (simp only []; omega) | (simp; omega))).other (a := ⟨w.heap.size + 1 + 1, 2, none⟩) _ (by first | omega | (simp only []; omega) | (simp; omega))), (((HB6_15.out.other (a := ⟨w.heap.size + 1 + 1, 0, none⟩) _ (by have := HB2_4.out.lt; first | omega | (simp only []; omega) | (simp; omega))).other (a := ⟨w.heap.size + 1 + 1, 1, none⟩) _ (by have := HB2_4.out.lt; first | omega | (simp only []; omega) | (simp; omega))).other (a := ⟨w.heap.size + 1 + 1, 2, none⟩) _ (by have := HB2_4.out.lt; first | omega | (simp only []; omega) | (simp; omega)))⟩ ?_
  rintro w16 ⟨e16, bB2_16, bB3_16, bB6_16⟩
  have HX16 := Lib.hid e16; have HB2_16 := Lib.hid bB2_16; have HB3_16 := Lib.hid bB3_16; have HB6_16 := Lib.hid bB6_16
  clear e16 bB2_16 bB3_16 bB6_16 c2_0 f2_0 c2_1 f2_1 c2_2 f2_2
  have c6_0 := HB6_16.out.cell 0 rfl
  have c6_1 := HB6_16.out.cell 1 rfl
  have c6_2 := HB6_16.out.cell 2 rfl
  go_wp2_with fail
  refine (result_3 (p.n.y * q.n.z - p.n.z * q.n.y) (p.n.z * q.n.x - p.n.x * q.n.z) (p.n.x * q.n.y - p.n.y * q.n.x) _ HR.out.x HR.out.y HR.out.z).mono ?_; rintro e w17 ⟨rfl, e17⟩
  have HX17 : Hid (Ext w w17) := Lib.hid (HX16.out.trans e17)
  have HB2_17 : Hid (Blk w17 (w.heap.size + 1 + 1) #[.string (qs ((p.n.z * q.c - p.c * q.n.z) / (p.n.z * q.n.x - p.n.x * q.n.z))), .string ⟨#[48]⟩, .string (qs ((p.c * q.n.x - p.n.x * q.c) / (p.n.z * q.n.x - p.n.x * q.n.z)))] 30) := Lib.hid (Blk.ext HB2_16.out e17)
  have HB3_17 := Lib.hid (Blk.ext HB3_16.out e17)
  clear e17 c6_0 c6_1 c6_2
  have c3_0 := HB3_17.out.cell 0 rfl
  have f3_0 := HB3_17.out.free 0
  have c3_1 := HB3_17.out.cell 1 rfl
  have f3_1 := HB3_17.out.free 1
  have c3_2 := HB3_17.out.cell 2 rfl
  have f3_2 := HB3_17.out.free 2
  go_wp2_with fail
  refine wp_name (fun W => Ext w W ∧ Blk W (w.heap.size + 1 + 1) #[.string (qs ((p.n.z * q.c - p.c * q.n.z) / (p.n.z * q.n.x - p.n.x * q.n.z))), .string ⟨#[48]⟩, .string (qs ((p.c * q.n.x - p.n.x * q.c) / (p.n.z * q.n.x - p.n.x * q.n.z)))] 30 ∧ Blk W (w.heap.size + 1 + 1 + 1) #[.string (qs (p.n.y * q.n.z - p.n.z * q.n.y)), .string (qs (p.n.z * q.n.x - p.n.x * q.n.z)), .string (qs (p.n.x * q.n.y - p.n.y * q.n.x))] 30) ⟨(((HX17.out.setCell (by have := HGEB3.out; first | omega | (simp only []; omega) | (simp; omega)) _).setCell (by have := HGEB3.out; first | omega | (simp only []; omega) | (simp; omega)) _).setCell (by have := HGEB3.out; first | omega | (simp only []; omega) | (simp; omega)) _), (((HB2_17.out.other (a := ⟨w.heap.size + 1 + 1 + 1, 0, none⟩) _ (by first | omega | (simp only []; omega) | (simp; omega))).other (a := ⟨w.heap.size + 1 + 1 + 1, 1, none⟩) _ (by first | omega | (simp only []; omega) | (simp; omega))).other (a := ⟨w.heap.size + 1 + 1 + 1, 2, none⟩) _ (by first | omega | (simp only []; omega) | (simp; omega))), (((HB3_17.out.set 0 (.string (qs (p.n.y * q.n.z - p.n.z * q.n.y)))).set 1 (.string (qs (p.n.z * q.n.x - p.n.x * q.n.z)))).set 2 (.string (qs (p.n.x * q.n.y - p.n.y * q.n.x))))⟩ ?_
  rintro w18 ⟨e18, bB2_18, bB3_18⟩
  have HX18 := Lib.hid e18; have HB2_18 := Lib.hid bB2_18; have HB3_18 := Lib.hid bB3_18
  clear e18 bB2_18 bB3_18 c3_0 f3_0 c3_1 f3_1 c3_2 f3_2
  have cB2_0 := HB2_18.out.cell 0 rfl; have fB2_0 := HB2_18.out.free 0
  have cB2_1 := HB2_18.out.cell 1 rfl; have fB2_1 := HB2_18.out.free 1
  have cB2_2 := HB2_18.out.cell 2 rfl; have fB2_2 := HB2_18.out.free 2
  have cB3_0 := HB3_18.out.cell 0 rfl; have fB3_0 := HB3_18.out.free 0
  have cB3_1 := HB3_18.out.cell 1 rfl; have fB3_1 := HB3_18.out.free 1
  have cB3_2 := HB3_18.out.cell 2 rfl; have fB3_2 := HB3_18.out.free 2
  have nb : w.heap.size + 1 + 1 ≠ w.heap.size + 1 + 1 + 1 := by first | omega | (simp only []; omega) | (simp; omega)
  go_region
  go_wp2_with fail
  refine wp_name (fun W => Ext w W ∧ Blk W (w.heap.size + 1 + 1) #[.string (qs ((p.n.z * q.c - p.c * q.n.z) / (p.n.z * q.n.x - p.n.x * q.n.z))), .string ⟨#[48]⟩, .string (qs ((p.c * q.n.x - p.n.x * q.c) / (p.n.z * q.n.x - p.n.x * q.n.z)))] 30 ∧ Blk W (w.heap.size + 1 + 1 + 1) #[.string (qs (p.n.y * q.n.z - p.n.z * q.n.y)), .string (qs (p.n.z * q.n.x - p.n.x * q.n.z)), .string (qs (p.n.x * q.n.y - p.n.y * q.n.x))] 30) ⟨(((((((HX18.out.setCell (by have := HGEB2.out; first | omega | (simp only []; omega) | (simp; omega)) _).setCell (by have := HGEB2.out; first | omega | (simp only []; omega) | (simp; omega)) _).setCell (by have := HGEB2.out; first | omega | (simp only []; omega) | (simp; omega)) _).setCell (by have := HGEB3.out; first | omega | (simp only []; omega) | (simp; omega)) _).setCell (by have := HGEB3.out; first | omega | (simp only []; omega) | (simp; omega)) _).setCell (by have := HGEB3.out; first | omega | (simp only []; omega) | (simp; omega)) _).drew), (((((((HB2_18.out.set 0 (.string (qs ((p.n.z * q.c - p.c * q.n.z) / (p.n.z * q.n.x - p.n.x * q.n.z))))).set 1 (.string ⟨#[48]⟩)).set 2 (.string (qs ((p.c * q.n.x - p.n.x * q.c) / (p.n.z * q.n.x - p.n.x * q.n.z))))).other (a := ⟨w.heap.size + 1 + 1 + 1, 0, none⟩) _ (by first | omega | (simp only []; omega) | (simp; omega))).other (a := ⟨w.heap.size + 1 + 1 + 1, 1, none⟩) _ (by first | omega | (simp only []; omega) | (simp; omega))).other (a := ⟨w.heap.size + 1 + 1 + 1, 2, none⟩) _ (by first | omega | (simp only []; omega) | (simp; omega))).drew), (((((((HB3_18.out.other (a := ⟨w.heap.size + 1 + 1, 0, none⟩) _ (by first | omega | (simp only []; omega) | (simp; omega))).other (a := ⟨w.heap.size + 1 + 1, 1, none⟩) _ (by first | omega | (simp only []; omega) | (simp; omega))).other (a := ⟨w.heap.size + 1 + 1, 2, none⟩) _ (by first | omega | (simp only []; omega) | (simp; omega))).set 0 (.string (qs (p.n.y * q.n.z - p.n.z * q.n.y)))).set 1 (.string (qs (p.n.z * q.n.x - p.n.x * q.n.z)))).set 2 (.string (qs (p.n.x * q.n.y - p.n.y * q.n.x)))).drew)⟩ ?_
  rintro w19 ⟨e19, bB2_19, bB3_19⟩
  have HX19 := Lib.hid e19; have HB2_19 := Lib.hid bB2_19; have HB3_19 := Lib.hid bB3_19
  clear e19 bB2_19 bB3_19 cB2_0 fB2_0 cB2_1 fB2_1 cB2_2 fB2_2 cB3_0 fB3_0 cB3_1 fB3_1 cB3_2 fB3_2 nb
  have gB2_0 := HB2_19.out.cell 0 rfl
  have gB2_1 := HB2_19.out.cell 1 rfl
  have gB2_2 := HB2_19.out.cell 2 rfl
  have gB3_0 := HB3_19.out.cell 0 rfl
  have gB3_1 := HB3_19.out.cell 1 rfl
  have gB3_2 := HB3_19.out.cell 2 rfl
  refine bodyPost_ret (v := .tuple #[.agg #[.string (qs ((p.n.z * q.c - p.c * q.n.z) / (p.n.z * q.n.x - p.n.x * q.n.z))), .string ⟨#[48]⟩, .string (qs ((p.c * q.n.x - p.n.x * q.c) / (p.n.z * q.n.x - p.n.x * q.n.z)))], .agg #[.string (qs (p.n.y * q.n.z - p.n.z * q.n.y)), .string (qs (p.n.z * q.n.x - p.n.x * q.n.z)), .string (qs (p.n.x * q.n.y - p.n.y * q.n.x))], .int .i64 0]) (by simp [results, Tryz.results25, go_sem, gB2_0, gB2_1, gB2_2, gB3_0, gB3_1, gB3_2]) rfl ⟨rfl, HX19.out⟩
end Go.Proofs.YtglppcmegocphaaGreatDoor

namespace Go.Proofs.YtglppcmegocphaaGreatDoor
open Go Go.RowKit
set_option maxRecDepth 100000
theorem kof_1_0_0 (w : World) (g : Gd w) : Calls Tryz.prog 66 #[(.int .i64 1), (.int .i64 0), (.int .i64 0)] w (Ret w (.agg #[.string ⟨#[49]⟩, .string ⟨#[48]⟩, .string ⟨#[48]⟩])) := by
  have h := sof_c 1 0 0 w g (by decide) (by decide) (by decide)
  exact Eq.mp (by kernel_rfl) h

theorem kof_0_1_0 (w : World) (g : Gd w) : Calls Tryz.prog 66 #[(.int .i64 0), (.int .i64 1), (.int .i64 0)] w (Ret w (.agg #[.string ⟨#[48]⟩, .string ⟨#[49]⟩, .string ⟨#[48]⟩])) := by
  have h := sof_c 0 1 0 w g (by decide) (by decide) (by decide)
  exact Eq.mp (by kernel_rfl) h

theorem kof_0_0_1 (w : World) (g : Gd w) : Calls Tryz.prog 66 #[(.int .i64 0), (.int .i64 0), (.int .i64 1)] w (Ret w (.agg #[.string ⟨#[48]⟩, .string ⟨#[48]⟩, .string ⟨#[49]⟩])) := by
  have h := sof_c 0 0 1 w g (by decide) (by decide) (by decide)
  exact Eq.mp (by kernel_rfl) h

theorem kof_1_0_1 (w : World) (g : Gd w) : Calls Tryz.prog 66 #[(.int .i64 1), (.int .i64 0), (.int .i64 1)] w (Ret w (.agg #[.string ⟨#[49]⟩, .string ⟨#[48]⟩, .string ⟨#[49]⟩])) := by
  have h := sof_c 1 0 1 w g (by decide) (by decide) (by decide)
  exact Eq.mp (by kernel_rfl) h

theorem kof_3_m2_0 (w : World) (g : Gd w) : Calls Tryz.prog 66 #[(.int .i64 3), (.int .i64 (-2)), (.int .i64 0)] w (Ret w (.agg #[.string ⟨#[51]⟩, .string ⟨#[45, 50]⟩, .string ⟨#[48]⟩])) := by
  have h := sof_c 3 (-2) 0 w g (by decide) (by decide) (by decide)
  exact Eq.mp (by kernel_rfl) h

theorem kat_0_0 (w : World) (g : Gd w) : Calls Tryz.prog 49 #[.int .i64 0, .int .i64 0] w (Ret w (.agg #[.string ⟨#[48]⟩, .string ⟨#[48]⟩])) := by
  have h := sat_c 0 0 w g (by decide) (by decide)
  exact Eq.mp (by kernel_rfl) h

theorem kat_4_0 (w : World) (g : Gd w) : Calls Tryz.prog 49 #[.int .i64 4, .int .i64 0] w (Ret w (.agg #[.string ⟨#[52]⟩, .string ⟨#[48]⟩])) := by
  have h := sat_c 4 0 w g (by decide) (by decide)
  exact Eq.mp (by kernel_rfl) h

theorem kat_0_2 (w : World) (g : Gd w) : Calls Tryz.prog 49 #[.int .i64 0, .int .i64 2] w (Ret w (.agg #[.string ⟨#[48]⟩, .string ⟨#[50]⟩])) := by
  have h := sat_c 0 2 w g (by decide) (by decide)
  exact Eq.mp (by kernel_rfl) h

theorem kat_2_1 (w : World) (g : Gd w) : Calls Tryz.prog 49 #[.int .i64 2, .int .i64 1] w (Ret w (.agg #[.string ⟨#[50]⟩, .string ⟨#[49]⟩])) := by
  have h := sat_c 2 1 w g (by decide) (by decide)
  exact Eq.mp (by kernel_rfl) h

theorem kcross (w : World) (g : Gd w) : Calls Tryz.prog 29 #[.agg #[.string ⟨#[49]⟩, .string ⟨#[48]⟩, .string ⟨#[48]⟩], .agg #[.string ⟨#[48]⟩, .string ⟨#[49]⟩, .string ⟨#[48]⟩]] w (Ret w (.tuple #[.agg #[.string ⟨#[48]⟩, .string ⟨#[48]⟩, .string ⟨#[49]⟩], .int .i64 0])) := by
  have h := vCross_ok ⟨1, 0, 0⟩ ⟨0, 1, 0⟩ w g ⟨⟨by decide +kernel, by decide +kernel⟩, ⟨by decide +kernel, by decide +kernel⟩, ⟨by decide +kernel, by decide +kernel⟩⟩ ⟨⟨by decide +kernel, by decide +kernel⟩, ⟨by decide +kernel, by decide +kernel⟩, ⟨by decide +kernel, by decide +kernel⟩⟩ ⟨⟨by decide +kernel, by decide +kernel⟩, ⟨by decide +kernel, by decide +kernel⟩, ⟨by decide +kernel, by decide +kernel⟩⟩
  exact Eq.mp (by kernel_rfl) h

theorem kprim (w : World) (g : Gd w) : Calls Tryz.prog 15 #[.agg #[.string ⟨#[49, 47, 50]⟩, .string ⟨#[45, 49, 47, 51]⟩, .string ⟨#[48]⟩]] w (Ret w (.tuple #[.agg #[.string ⟨#[51]⟩, .string ⟨#[45, 50]⟩, .string ⟨#[48]⟩], .int .i64 0])) := by
  have h := vPrim_ok ⟨(1 / 2), ((-1) / 3), 0⟩ w g ⟨⟨by decide +kernel, by decide +kernel⟩, ⟨by decide +kernel, by decide +kernel⟩, ⟨by decide +kernel, by decide +kernel⟩⟩ (by decide +kernel) ⟨⟨by decide +kernel, by decide +kernel⟩, ⟨by decide +kernel, by decide +kernel⟩, ⟨by decide +kernel, by decide +kernel⟩⟩ (by decide +kernel) ⟨⟨by decide +kernel, by decide +kernel⟩, ⟨by decide +kernel, by decide +kernel⟩, ⟨by decide +kernel, by decide +kernel⟩⟩
  exact Eq.mp (by kernel_rfl) h

theorem karea (w : World) (g : Gd w) : Calls Tryz.prog 60 #[.agg #[.string ⟨#[48]⟩, .string ⟨#[48]⟩], .agg #[.string ⟨#[52]⟩, .string ⟨#[48]⟩], .agg #[.string ⟨#[48]⟩, .string ⟨#[50]⟩]] w (Ret w (.tuple #[.string ⟨#[56]⟩, .int .i64 0])) := by
  have h := vArea_ok ⟨0, 0⟩ ⟨4, 0⟩ ⟨0, 2⟩ w g ⟨⟨by decide +kernel, by decide +kernel⟩, ⟨by decide +kernel, by decide +kernel⟩⟩ ⟨⟨by decide +kernel, by decide +kernel⟩, ⟨by decide +kernel, by decide +kernel⟩⟩ ⟨⟨by decide +kernel, by decide +kernel⟩, ⟨by decide +kernel, by decide +kernel⟩⟩ ⟨by decide +kernel, by decide +kernel⟩
  exact Eq.mp (by kernel_rfl) h

theorem kthrough (w : World) (g : Gd w) : Calls Tryz.prog 40 #[.agg #[.string ⟨#[48]⟩, .string ⟨#[48]⟩], .agg #[.string ⟨#[50]⟩, .string ⟨#[49]⟩]] w (Ret w (.tuple #[.agg #[.string ⟨#[45, 49]⟩, .string ⟨#[50]⟩, .string ⟨#[48]⟩], .int .i64 0])) := by
  have h := vThrough_ok ⟨0, 0⟩ ⟨2, 1⟩ w g ⟨⟨by decide +kernel, by decide +kernel⟩, ⟨by decide +kernel, by decide +kernel⟩⟩ ⟨⟨by decide +kernel, by decide +kernel⟩, ⟨by decide +kernel, by decide +kernel⟩⟩ ⟨⟨by decide +kernel, by decide +kernel⟩, ⟨by decide +kernel, by decide +kernel⟩, ⟨by decide +kernel, by decide +kernel⟩⟩ (by intro h; have := congrArg P2.x h; revert this; decide +kernel)
  exact Eq.mp (by kernel_rfl) h

theorem kcommon (w : World) (g : Gd w) : Calls Tryz.prog 25 #[.agg #[.string ⟨#[48]⟩, .string ⟨#[48]⟩, .string ⟨#[49]⟩, .string ⟨#[48]⟩], .agg #[.string ⟨#[49]⟩, .string ⟨#[48]⟩, .string ⟨#[49]⟩, .string ⟨#[49]⟩]] w (Ret w (.tuple #[.agg #[.string ⟨#[49]⟩, .string ⟨#[48]⟩, .string ⟨#[48]⟩], .agg #[.string ⟨#[48]⟩, .string ⟨#[49]⟩, .string ⟨#[48]⟩], .int .i64 0])) := by
  have h := vCommon_1 ⟨⟨0, 0, 1⟩, 0⟩ ⟨⟨1, 0, 1⟩, 1⟩ w g ⟨⟨by decide +kernel, by decide +kernel⟩, ⟨by decide +kernel, by decide +kernel⟩, ⟨by decide +kernel, by decide +kernel⟩⟩ ⟨by decide +kernel, by decide +kernel⟩ ⟨⟨by decide +kernel, by decide +kernel⟩, ⟨by decide +kernel, by decide +kernel⟩, ⟨by decide +kernel, by decide +kernel⟩⟩ ⟨by decide +kernel, by decide +kernel⟩ (by decide +kernel) (by decide +kernel) ⟨⟨by decide +kernel, by decide +kernel⟩, ⟨by decide +kernel, by decide +kernel⟩, ⟨by decide +kernel, by decide +kernel⟩⟩ ⟨by decide +kernel, by decide +kernel⟩ ⟨by decide +kernel, by decide +kernel⟩ (by decide +kernel) (by decide +kernel)
  exact Eq.mp (by kernel_rfl) h
end Go.Proofs.YtglppcmegocphaaGreatDoor

namespace Go.Proofs.YtglppcmegocphaaGreatDoor
open Go Go.RowKit
set_option maxRecDepth 100000 in
set_option maxHeartbeats 8000000 in
theorem known_c (w : World) (g : Gd w) : Calls Tryz.prog 13 #[] w (Ret w (.bool true)) := by
  have HG := Lib.hid g
  clear g
  go_enter Tryz.func13, Tryz.ntmps13
  go_wp2_with fail
  refine (kof_1_0_0 _ (HG.out.ext (Ext.refl w))).mono ?_; rintro e w1 ⟨rfl, e1⟩
  have HX1 : Hid (Ext w w1) := Lib.hid ((Ext.refl w).trans e1)
  clear e1
  go_wp2_with fail
  refine (kof_0_1_0 _ (HG.out.ext HX1.out)).mono ?_; rintro e w2 ⟨rfl, e2⟩
  have HX2 : Hid (Ext w w2) := Lib.hid (HX1.out.trans e2)
  clear e2
  go_wp2_with fail
  refine (kcross _ (HG.out.ext HX2.out)).mono ?_; rintro e w3 ⟨rfl, e3⟩
  have HX3 : Hid (Ext w w3) := Lib.hid (HX2.out.trans e3)
  clear e3
  go_wp2_with fail
  refine (kprim _ (HG.out.ext (HX3.out.alloc _))).mono ?_; rintro e w4 ⟨rfl, e4⟩
  have HX4 : Hid (Ext w w4) := Lib.hid ((HX3.out.alloc _).trans e4)
  have HB0_4 : Hid (Blk w4 (w3.heap.size) #[.string ⟨#[48]⟩, .string ⟨#[48]⟩, .string ⟨#[49]⟩] 30) := Lib.hid (Blk.ext (Blk.new' (w := _) (cs := #[.string ⟨#[48]⟩, .string ⟨#[48]⟩, .string ⟨#[49]⟩]) (t := 30) (by first | rfl | (simp only [World.size_alloc]; done) | (simp only [World.size_alloc]; omega) | simp)) e4)
  have HGEB0 : Hid (w.heap.size ≤ w3.heap.size) := Lib.hid (by have := HX3.out.size; first | omega | (simp only []; omega) | (simp; omega))
  clear e4
  go_wp2_with fail
  refine (kat_0_0 _ (HG.out.ext (HX4.out.alloc _))).mono ?_; rintro e w5 ⟨rfl, e5⟩
  have HX5 : Hid (Ext w w5) := Lib.hid ((HX4.out.alloc _).trans e5)
  have HB0_5 : Hid (Blk w5 (w3.heap.size) #[.string ⟨#[48]⟩, .string ⟨#[48]⟩, .string ⟨#[49]⟩] 30) := Lib.hid (Blk.ext (HB0_4.out.alloc _) e5)
  have HB1_5 : Hid (Blk w5 (w4.heap.size) #[.string ⟨#[51]⟩, .string ⟨#[45, 50]⟩, .string ⟨#[48]⟩] 30) := Lib.hid (Blk.ext (Blk.new' (w := _) (cs := #[.string ⟨#[51]⟩, .string ⟨#[45, 50]⟩, .string ⟨#[48]⟩]) (t := 30) (by first | rfl | (simp only [World.size_alloc]; done) | (simp only [World.size_alloc]; omega) | simp)) e5)
  have HGEB1 : Hid (w.heap.size ≤ w4.heap.size) := Lib.hid (by have := HX4.out.size; first | omega | (simp only []; omega) | (simp; omega))
  clear e5
  go_wp2_with fail
  refine (kat_4_0 _ (HG.out.ext HX5.out)).mono ?_; rintro e w6 ⟨rfl, e6⟩
  have HX6 : Hid (Ext w w6) := Lib.hid (HX5.out.trans e6)
  have HB0_6 := Lib.hid (Blk.ext HB0_5.out e6)
  have HB1_6 := Lib.hid (Blk.ext HB1_5.out e6)
  clear e6
  go_wp2_with fail
  refine (kat_0_2 _ (HG.out.ext HX6.out)).mono ?_; rintro e w7 ⟨rfl, e7⟩
  have HX7 : Hid (Ext w w7) := Lib.hid (HX6.out.trans e7)
  have HB0_7 := Lib.hid (Blk.ext HB0_6.out e7)
  have HB1_7 := Lib.hid (Blk.ext HB1_6.out e7)
  clear e7
  go_wp2_with fail
  refine (karea _ (HG.out.ext HX7.out)).mono ?_; rintro e w8 ⟨rfl, e8⟩
  have HX8 : Hid (Ext w w8) := Lib.hid (HX7.out.trans e8)
  have HB0_8 := Lib.hid (Blk.ext HB0_7.out e8)
  have HB1_8 := Lib.hid (Blk.ext HB1_7.out e8)
  clear e8
  go_wp2_with fail
  refine (kat_0_0 _ (HG.out.ext HX8.out)).mono ?_; rintro e w9 ⟨rfl, e9⟩
  have HX9 : Hid (Ext w w9) := Lib.hid (HX8.out.trans e9)
  have HB0_9 := Lib.hid (Blk.ext HB0_8.out e9)
  have HB1_9 := Lib.hid (Blk.ext HB1_8.out e9)
  clear e9
  go_wp2_with fail
  refine (kat_2_1 _ (HG.out.ext HX9.out)).mono ?_; rintro e w10 ⟨rfl, e10⟩
  have HX10 : Hid (Ext w w10) := Lib.hid (HX9.out.trans e10)
  have HB0_10 := Lib.hid (Blk.ext HB0_9.out e10)
  have HB1_10 := Lib.hid (Blk.ext HB1_9.out e10)
  clear e10
  go_wp2_with fail
  refine (kthrough _ (HG.out.ext HX10.out)).mono ?_; rintro e w11 ⟨rfl, e11⟩
  have HX11 : Hid (Ext w w11) := Lib.hid (HX10.out.trans e11)
  have HB0_11 := Lib.hid (Blk.ext HB0_10.out e11)
  have HB1_11 := Lib.hid (Blk.ext HB1_10.out e11)
  clear e11
  go_wp2_with fail
  refine (kof_0_0_1 _ (HG.out.ext (HX11.out.alloc _))).mono ?_; rintro e w12 ⟨rfl, e12⟩
  have HX12 : Hid (Ext w w12) := Lib.hid ((HX11.out.alloc _).trans e12)
  have HB0_12 : Hid (Blk w12 (w3.heap.size) #[.string ⟨#[48]⟩, .string ⟨#[48]⟩, .string ⟨#[49]⟩] 30) := Lib.hid (Blk.ext (HB0_11.out.alloc _) e12)
  have HB1_12 : Hid (Blk w12 (w4.heap.size) #[.string ⟨#[51]⟩, .string ⟨#[45, 50]⟩, .string ⟨#[48]⟩] 30) := Lib.hid (Blk.ext (HB1_11.out.alloc _) e12)
  have HB2_12 : Hid (Blk w12 (w11.heap.size) #[.string ⟨#[45, 49]⟩, .string ⟨#[50]⟩, .string ⟨#[48]⟩] 73) := Lib.hid (Blk.ext (Blk.new' (w := _) (cs := #[.string ⟨#[45, 49]⟩, .string ⟨#[50]⟩, .string ⟨#[48]⟩]) (t := 73) (by first | rfl | (simp only [World.size_alloc]; done) | (simp only [World.size_alloc]; omega) | simp)) e12)
  have HGEB2 : Hid (w.heap.size ≤ w11.heap.size) := Lib.hid (by have := HX11.out.size; first | omega | (simp only []; omega) | (simp; omega))
  clear e12
  go_wp2_with fail
  refine (kof_1_0_1 _ (HG.out.ext HX12.out)).mono ?_; rintro e w13 ⟨rfl, e13⟩
  have HX13 : Hid (Ext w w13) := Lib.hid (HX12.out.trans e13)
  have HB0_13 := Lib.hid (Blk.ext HB0_12.out e13)
  have HB1_13 := Lib.hid (Blk.ext HB1_12.out e13)
  have HB2_13 := Lib.hid (Blk.ext HB2_12.out e13)
  clear e13
  go_wp2_with fail
  refine (kcommon _ (HG.out.ext HX13.out)).mono ?_; rintro e w14 ⟨rfl, e14⟩
  have HX14 : Hid (Ext w w14) := Lib.hid (HX13.out.trans e14)
  have HB0_14 := Lib.hid (Blk.ext HB0_13.out e14)
  have HB1_14 := Lib.hid (Blk.ext HB1_13.out e14)
  have HB2_14 := Lib.hid (Blk.ext HB2_13.out e14)
  clear e14
  go_wp2_with fail
  refine wp_name (fun W => Ext w W ∧ Blk W (w3.heap.size) #[.string ⟨#[48]⟩, .string ⟨#[48]⟩, .string ⟨#[49]⟩] 30 ∧ Blk W (w4.heap.size) #[.string ⟨#[51]⟩, .string ⟨#[45, 50]⟩, .string ⟨#[48]⟩] 30 ∧ Blk W (w11.heap.size) #[.string ⟨#[45, 49]⟩, .string ⟨#[50]⟩, .string ⟨#[48]⟩] 73 ∧ Blk W (w14.heap.size) #[.string ⟨#[49]⟩, .string ⟨#[48]⟩, .string ⟨#[48]⟩] 30 ∧ Blk W (w14.heap.size + 1) #[.string ⟨#[48]⟩, .string ⟨#[49]⟩, .string ⟨#[48]⟩] 30) ⟨((HX14.out.alloc _).alloc _), ((HB0_14.out.alloc _).alloc _), ((HB1_14.out.alloc _).alloc _), ((HB2_14.out.alloc _).alloc _), ((Blk.new' (w := _) (cs := #[.string ⟨#[49]⟩, .string ⟨#[48]⟩, .string ⟨#[48]⟩]) (t := 30) (by first | rfl | (simp only [World.size_alloc]; done) | (simp only [World.size_alloc]; omega) | simp)).alloc _), (Blk.new' (w := _) (cs := #[.string ⟨#[48]⟩, .string ⟨#[49]⟩, .string ⟨#[48]⟩]) (t := 30) (by first | rfl | (simp only [World.size_alloc]; done) | (simp only [World.size_alloc]; omega) | simp))⟩ ?_
  rintro w15 ⟨e15, bB0_15, bB1_15, bB2_15, bB3_15, bB4_15⟩
  have HX15 := Lib.hid e15; have HB0_15 := Lib.hid bB0_15; have HB1_15 := Lib.hid bB1_15; have HB2_15 := Lib.hid bB2_15; have HB3_15 := Lib.hid bB3_15; have HB4_15 := Lib.hid bB4_15
  have HGEB3 : Hid (w.heap.size ≤ w14.heap.size) := Lib.hid (by have := HX14.out.size; first | omega | (simp only []; omega) | (simp; omega))
  have HGEB4 : Hid (w.heap.size ≤ w14.heap.size + 1) := Lib.hid (by have := HX14.out.size; first | omega | (simp only []; omega) | (simp; omega))
  clear e15 bB0_15 bB1_15 bB2_15 bB3_15 bB4_15
  have hS15 : w15.cell? ⟨w3.heap.size, 0, none⟩ = some (.string ⟨#[48]⟩) ∧ w15.cell? ⟨w3.heap.size, 1, none⟩ = some (.string ⟨#[48]⟩) ∧ w15.cell? ⟨w3.heap.size, 2, none⟩ = some (.string ⟨#[49]⟩) ∧ w15.cell? ⟨w4.heap.size, 0, none⟩ = some (.string ⟨#[51]⟩) ∧ w15.cell? ⟨w4.heap.size, 1, none⟩ = some (.string ⟨#[45, 50]⟩) ∧ w15.cell? ⟨w4.heap.size, 2, none⟩ = some (.string ⟨#[48]⟩) ∧ w15.cell? ⟨w11.heap.size, 0, none⟩ = some (.string ⟨#[45, 49]⟩) ∧ w15.cell? ⟨w11.heap.size, 1, none⟩ = some (.string ⟨#[50]⟩) ∧ w15.cell? ⟨w11.heap.size, 2, none⟩ = some (.string ⟨#[48]⟩) ∧ w15.cell? ⟨w14.heap.size + 1, 0, none⟩ = some (.string ⟨#[48]⟩) ∧ w15.cell? ⟨w14.heap.size + 1, 1, none⟩ = some (.string ⟨#[49]⟩) ∧ w15.cell? ⟨w14.heap.size + 1, 2, none⟩ = some (.string ⟨#[48]⟩) ∧ w15.cell? ⟨w14.heap.size, 0, none⟩ = some (.string ⟨#[49]⟩) ∧ w15.cell? ⟨w14.heap.size, 1, none⟩ = some (.string ⟨#[48]⟩) ∧ w15.cell? ⟨w14.heap.size, 2, none⟩ = some (.string ⟨#[48]⟩) := ⟨HB0_15.out.cell 0 rfl, HB0_15.out.cell 1 rfl, HB0_15.out.cell 2 rfl, HB1_15.out.cell 0 rfl, HB1_15.out.cell 1 rfl, HB1_15.out.cell 2 rfl, HB2_15.out.cell 0 rfl, HB2_15.out.cell 1 rfl, HB2_15.out.cell 2 rfl, HB4_15.out.cell 0 rfl, HB4_15.out.cell 1 rfl, HB4_15.out.cell 2 rfl, HB3_15.out.cell 0 rfl, HB3_15.out.cell 1 rfl, HB3_15.out.cell 2 rfl⟩
  have HS15 := Lib.hid hS15; clear hS15
  go_region_held3 (fun w' => w'.cell? ⟨w3.heap.size, 0, none⟩ = some (.string ⟨#[48]⟩) ∧ w'.cell? ⟨w3.heap.size, 1, none⟩ = some (.string ⟨#[48]⟩) ∧ w'.cell? ⟨w3.heap.size, 2, none⟩ = some (.string ⟨#[49]⟩) ∧ w'.cell? ⟨w4.heap.size, 0, none⟩ = some (.string ⟨#[51]⟩) ∧ w'.cell? ⟨w4.heap.size, 1, none⟩ = some (.string ⟨#[45, 50]⟩) ∧ w'.cell? ⟨w4.heap.size, 2, none⟩ = some (.string ⟨#[48]⟩) ∧ w'.cell? ⟨w11.heap.size, 0, none⟩ = some (.string ⟨#[45, 49]⟩) ∧ w'.cell? ⟨w11.heap.size, 1, none⟩ = some (.string ⟨#[50]⟩) ∧ w'.cell? ⟨w11.heap.size, 2, none⟩ = some (.string ⟨#[48]⟩) ∧ w'.cell? ⟨w14.heap.size + 1, 0, none⟩ = some (.string ⟨#[48]⟩) ∧ w'.cell? ⟨w14.heap.size + 1, 1, none⟩ = some (.string ⟨#[49]⟩) ∧ w'.cell? ⟨w14.heap.size + 1, 2, none⟩ = some (.string ⟨#[48]⟩) ∧ w'.cell? ⟨w14.heap.size, 0, none⟩ = some (.string ⟨#[49]⟩) ∧ w'.cell? ⟨w14.heap.size, 1, none⟩ = some (.string ⟨#[48]⟩) ∧ w'.cell? ⟨w14.heap.size, 2, none⟩ = some (.string ⟨#[48]⟩))
    ((exact keepsH15 (by repeat (first | assumption | exact Ext.refl _ | apply Ext.drew | apply Ext.alloc | (refine Ext.setCell ?_ (by first | omega | (simp only []; omega) | (simp; omega)) _) | (refine Ext.trans ?_ (by assumption)))) HS15.out)) ((first
      | (go_at_call 66; ((with_reducible refine (kof_0_0_1 _ (HG.out.ext (HX15.out.trans (by repeat (first | assumption | exact Ext.refl _ | apply Ext.drew | apply Ext.alloc | (refine Ext.setCell ?_ (by first | omega | (simp only []; omega) | (simp; omega)) _) | (refine Ext.trans ?_ (by assumption))))))).mono ?_); rintro e w16 ⟨rfl, e16⟩))
      | (go_at_call 66; ((with_reducible refine (kof_3_m2_0 _ (HG.out.ext (HX15.out.trans (by repeat (first | assumption | exact Ext.refl _ | apply Ext.drew | apply Ext.alloc | (refine Ext.setCell ?_ (by first | omega | (simp only []; omega) | (simp; omega)) _) | (refine Ext.trans ?_ (by assumption))))))).mono ?_); rintro e w17 ⟨rfl, e17⟩))
      | (go_at_call 66; ((with_reducible refine (kof_0_1_0 _ (HG.out.ext (HX15.out.trans (by repeat (first | assumption | exact Ext.refl _ | apply Ext.drew | apply Ext.alloc | (refine Ext.setCell ?_ (by first | omega | (simp only []; omega) | (simp; omega)) _) | (refine Ext.trans ?_ (by assumption))))))).mono ?_); rintro e w18 ⟨rfl, e18⟩))
      | (go_at_call 66; ((with_reducible refine (kof_1_0_0 _ (HG.out.ext (HX15.out.trans (by repeat (first | assumption | exact Ext.refl _ | apply Ext.drew | apply Ext.alloc | (refine Ext.setCell ?_ (by first | omega | (simp only []; omega) | (simp; omega)) _) | (refine Ext.trans ?_ (by assumption))))))).mono ?_); rintro e w19 ⟨rfl, e19⟩))))
  refine wp_name (fun W => Ext w W) (HX15.out.trans (((((Ext.refl _).drew.trans e16).trans e17).trans e18).trans e19)) ?_
  rintro w20 e20
  have HX20 := Lib.hid e20
  clear e20
  go_wp2
  go_ret
  exact ⟨rfl, HX20.out⟩
end Go.Proofs.YtglppcmegocphaaGreatDoor

namespace Go.Proofs.YtglppcmegocphaaGreatDoor
open Go Go.RowKit
def sm (n : Int) (d : Nat) : Rat := mkRat n (1 + d)
theorem sm_qb {n : Int} {d : Nat} (h0 : -32768 ≤ n) (h1 : n ≤ 32767) (h2 : d ≤ 255) : QB 5 (sm n d) := QB.mk' (by omega) (by omega) (by omega)
structure Pla where
  n0 : Int
  d0 : Nat
  n1 : Int
  d1 : Nat
  n2 : Int
  d2 : Nat
structure PlaOk (p : Pla) : Prop where
  a0 : -32768 ≤ p.n0
  b0 : p.n0 ≤ 32767
  c0 : p.d0 ≤ 255
  a1 : -32768 ≤ p.n1
  b1 : p.n1 ≤ 32767
  c1 : p.d1 ≤ 255
  a2 : -32768 ≤ p.n2
  b2 : p.n2 ≤ 32767
  c2 : p.d2 ≤ 255
def pvec (p : Pla) : V3 := ⟨sm p.n0 p.d0, sm p.n1 p.d1, sm p.n2 p.d2⟩
def ppt (p : Pla) : P2 := ⟨sm p.n0 p.d0, sm p.n1 p.d1⟩
theorem PlaOk.v {p : Pla} (h : PlaOk p) : VB 5 (pvec p) := ⟨sm_qb h.a0 h.b0 h.c0, sm_qb h.a1 h.b1 h.c1, sm_qb h.a2 h.b2 h.c2⟩
theorem PlaOk.p {p : Pla} (h : PlaOk p) : PB 5 (ppt p) := ⟨sm_qb h.a0 h.b0 h.c0, sm_qb h.a1 h.b1 h.c1⟩

def ferr : List Int → Int
  | [] => 0
  | x :: l => if x = 0 then ferr l else x
theorem ferr_zero {l : List Int} (h : ∀ (i : Nat) (hi : i < l.length), l[i] = 0) : ferr l = 0 := by
  induction l with
  | nil => rfl
  | cons x l ih =>
    have e : x = 0 := h 0 (by simp)
    unfold ferr; rw [if_pos e]; exact ih (fun i hi => h (i + 1) (by simpa using hi))
theorem ferr_at {l : List Int} {k : Nat} (hk : k < l.length) (h : ∀ (i : Nat) (_ : i < k) (hi : i < l.length), l[i] = 0) (hne : l[k] ≠ 0) : ferr l = l[k] := by
  induction l generalizing k with
  | nil => simp at hk
  | cons x l ih =>
    cases k with
    | zero =>
      have e : x ≠ 0 := hne
      unfold ferr; rw [if_neg e]; rfl
    | succ k =>
      have e : x = 0 := h 0 (by omega) (by simp)
      unfold ferr; rw [if_pos e]
      exact ih (by simpa using hk) (fun i hi hl => h (i + 1) (by omega) (by simpa using hl)) hne
theorem Tryz.sizeErrno (w : World) : (sizeOf 32).run Tryz.prog w = .ok 1 w := by kernel_rfl
set_option maxRecDepth 100000 in
set_option maxHeartbeats 1000000 in
theorem first_c (l : List Int) (b n cap : Nat) (w : World) (hn : l.length = n) (hn9 : n ≤ 100) (hc : ∀ (i : Nat) (hi : i < l.length), w.cell? ⟨b, i, none⟩ = some (.int .i64 l[i])) :
    Calls Tryz.prog 26 #[.slice (some ⟨b, 0, none⟩) n cap] w fun e w' => e = .returned (.int .i64 (ferr l)) ∧ w = w' := by
  have HC := Lib.hid hc; have HN := Lib.hid hn
  clear hc hn
  go_enter Tryz.func26, Tryz.ntmps26
  go_wp2
  go_loop [3] (fun x => ∃ k : Nat, x = .int .i64 k ∧ k ≤ n ∧ Hid (∀ (i : Nat) (_ : i < k) (hi : i < l.length), l[i] = 0)) (fun x => n - (intOf x).toNat)
  case atStart => exact ⟨0, rfl, by omega, Lib.hid (fun i h => by omega)⟩
  case round =>
    obtain ⟨k, rfl, hk, HR⟩ := hrel
    by_cases hkn : k < n
    · have hks : k < l.length := by have := HN.out; omega
      obtain ⟨v, hv⟩ : ∃ v, v = l[k] := ⟨_, rfl⟩
      have c1 : w.cell? ⟨b, k, none⟩ = some (.int .i64 v) := by rw [hv]; exact HC.out k hks
      have hix := run_index 53 32 rfl Tryz.sizeErrno (ad := some ⟨b, 0, none⟩) (n := n) (cap := cap) (fun _ => rfl) k hkn
      have HV := Lib.hid hv
      clear hv
      by_cases h0 : v = 0
      · have HV0 : Hid (l[k] = 0) := Lib.hid (by rw [← HV.out]; exact h0)
        have t1 : (v != 0) = false := by simp [h0]
        clear h0
        go_wp2
        go_round
        case rel => exact ⟨k + 1, by go_num, by omega, Lib.hid (fun i h hi => by
          by_cases e : i = k
          · subst e; exact HV0.out
          · exact HR.out i (by omega) hi)⟩
        case measure => simp [intOf]; omega
      · have HV0 : Hid (l[k] ≠ 0) := Lib.hid (by rw [← HV.out]; exact h0)
        have t1 : (v != 0) = true := by simp [h0]
        go_wp2
        go_ret
        exact ⟨by rw [ferr_at hks (fun i h hi => HR.out i h hi) HV0.out, ← HV.out]; rfl, rfl⟩
    · obtain rfl : k = n := by omega
      go_wp2
      go_ret
      exact ⟨by rw [ferr_zero (fun i hi => HR.out i (by have := HN.out; omega) hi)]; rfl, rfl⟩
end Go.Proofs.YtglppcmegocphaaGreatDoor
