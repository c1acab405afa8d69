/- Part 26 of the proof: V4. -/
import Derived.Test.YtglppcmegocphaaGreatDoorQS25
namespace Go.Proofs.YtglppcmegocphaaGreatDoor
open Go Go.RowKit
set_option maxRecDepth 100000 in
set_option maxHeartbeats 2000000 in
theorem vPlane_ok (p : Pl) (w : World) (g : Gd w) (hn : VB 200 p.n) (hc : QB 200 p.c) (h0 : ¬ (p.n.x = 0 ∧ p.n.y = 0 ∧ p.n.z = 0)) : Calls Tryz.prog 58 #[.agg #[.string (qs p.n.x), .string (qs p.n.y), .string (qs p.n.z), .string (qs p.c)]] w (Ret w (.int .i64 0)) := by
  have HN := Lib.hid hn
  have HC := Lib.hid hc
  have HG := Lib.hid g
  have H0 := Lib.hid h0
  clear hn hc g h0
  go_enter Tryz.func58, Tryz.ntmps58
  go_wp2_with fail
  refine (numbers4_ok p.n.x p.n.y p.n.z p.c (w.heap.size + 1) _ (HG.out.ext (((Ext.refl w).alloc _).alloc _)) HN.out.x HN.out.y HN.out.z HC.out (Blk.new' (w := _) (cs := #[.string (qs p.n.x), .string (qs p.n.y), .string (qs p.n.z), .string (qs p.c)]) (t := 28) (by first | rfl | (simp only [World.size_alloc]; done) | (simp only [World.size_alloc]; omega) | simp))).mono ?_; rintro e w1 ⟨rfl, e1⟩
  have HX1 : Hid (Ext w w1) := Lib.hid ((((Ext.refl w).alloc _).alloc _).trans e1)
  have HB0_1 : Hid (Blk w1 (w.heap.size) #[.string (qs p.n.x), .string (qs p.n.y), .string (qs p.n.z), .string (qs p.c)] 48) := Lib.hid (Blk.ext ((Blk.new' (w := _) (cs := #[.string (qs p.n.x), .string (qs p.n.y), .string (qs p.n.z), .string (qs p.c)]) (t := 48) (by first | rfl | (simp only [World.size_alloc]; done) | (simp only [World.size_alloc]; omega) | simp)).alloc _) e1)
  have HB1_1 : Hid (Blk w1 (w.heap.size + 1) #[.string (qs p.n.x), .string (qs p.n.y), .string (qs p.n.z), .string (qs p.c)] 28) := Lib.hid (Blk.ext (Blk.new' (w := _) (cs := #[.string (qs p.n.x), .string (qs p.n.y), .string (qs p.n.z), .string (qs p.c)]) (t := 28) (by first | rfl | (simp only [World.size_alloc]; done) | (simp only [World.size_alloc]; omega) | simp)) e1)
  have HGEB0 : Hid (w.heap.size ≤ w.heap.size) := Lib.hid (by first | omega | (simp only []; omega) | (simp; omega))
  have HGEB1 : Hid (w.heap.size ≤ w.heap.size + 1) := Lib.hid (by first | omega | (simp only []; omega) | (simp; omega))
  clear e1
  have c0_0 := HB0_1.out.cell 0 rfl
  have c0_1 := HB0_1.out.cell 1 rfl
  have c0_2 := HB0_1.out.cell 2 rfl
  go_wp2_with fail
  refine (vzero_f p.n _ H0.out).mono ?_; rintro e w2 ⟨rfl, e2⟩
  have HX2 : Hid (Ext w w2) := Lib.hid (HX1.out.trans e2)
  clear e2 c0_0 c0_1 c0_2
  go_wp2
  go_ret
  exact ⟨rfl, HX2.out⟩

set_option maxRecDepth 100000 in
set_option maxHeartbeats 2000000 in
theorem vPlane_zero (p : Pl) (w : World) (g : Gd w) (hn : VB 200 p.n) (hc : QB 200 p.c) (h0 : p.n.x = 0 ∧ p.n.y = 0 ∧ p.n.z = 0) : Calls Tryz.prog 58 #[.agg #[.string (qs p.n.x), .string (qs p.n.y), .string (qs p.n.z), .string (qs p.c)]] w (Ret w (.int .i64 17)) := by
  have HN := Lib.hid hn
  have HC := Lib.hid hc
  have HG := Lib.hid g
  have H0 := Lib.hid h0
  clear hn hc g h0
  go_enter Tryz.func58, Tryz.ntmps58
  go_wp2_with fail
  refine (numbers4_ok p.n.x p.n.y p.n.z p.c (w.heap.size + 1) _ (HG.out.ext (((Ext.refl w).alloc _).alloc _)) HN.out.x HN.out.y HN.out.z HC.out (Blk.new' (w := _) (cs := #[.string (qs p.n.x), .string (qs p.n.y), .string (qs p.n.z), .string (qs p.c)]) (t := 28) (by first | rfl | (simp only [World.size_alloc]; done) | (simp only [World.size_alloc]; omega) | simp))).mono ?_; rintro e w1 ⟨rfl, e1⟩
  have HX1 : Hid (Ext w w1) := Lib.hid ((((Ext.refl w).alloc _).alloc _).trans e1)
  have HB0_1 : Hid (Blk w1 (w.heap.size) #[.string (qs p.n.x), .string (qs p.n.y), .string (qs p.n.z), .string (qs p.c)] 48) := Lib.hid (Blk.ext ((Blk.new' (w := _) (cs := #[.string (qs p.n.x), .string (qs p.n.y), .string (qs p.n.z), .string (qs p.c)]) (t := 48) (by first | rfl | (simp only [World.size_alloc]; done) | (simp only [World.size_alloc]; omega) | simp)).alloc _) e1)
  have HB1_1 : Hid (Blk w1 (w.heap.size + 1) #[.string (qs p.n.x), .string (qs p.n.y), .string (qs p.n.z), .string (qs p.c)] 28) := Lib.hid (Blk.ext (Blk.new' (w := _) (cs := #[.string (qs p.n.x), .string (qs p.n.y), .string (qs p.n.z), .string (qs p.c)]) (t := 28) (by first | rfl | (simp only [World.size_alloc]; done) | (simp only [World.size_alloc]; omega) | simp)) e1)
  have HGEB0 : Hid (w.heap.size ≤ w.heap.size) := Lib.hid (by first | omega | (simp only []; omega) | (simp; omega))
  have HGEB1 : Hid (w.heap.size ≤ w.heap.size + 1) := Lib.hid (by first | omega | (simp only []; omega) | (simp; omega))
  clear e1
  have c0_0 := HB0_1.out.cell 0 rfl
  have c0_1 := HB0_1.out.cell 1 rfl
  have c0_2 := HB0_1.out.cell 2 rfl
  go_wp2_with fail
  refine (vzero_t p.n _ H0.out).mono ?_; rintro e w2 ⟨rfl, e2⟩
  have HX2 : Hid (Ext w w2) := Lib.hid (HX1.out.trans e2)
  clear e2 c0_0 c0_1 c0_2
  go_wp2
  go_ret
  exact ⟨rfl, HX2.out⟩

theorem vCheck_ok (v : V3) (w : World) (g : Gd w) (hv : VB 200 v) : Calls Tryz.prog 54 #[vv v] w (Ret w (.int .i64 0)) := by
  have := vcheck_c ⟨qs v.x, qs v.y, qs v.z⟩ w g hv.ts
  rwa [show terr (T3.l ⟨qs v.x, qs v.y, qs v.z⟩) = 0 from terr_0 hv.all] at this
set_option maxRecDepth 100000 in
set_option maxHeartbeats 2000000 in
theorem vSide_ok (p : Pl) (v : V3) (w : World) (g : Gd w) (hn : VB 200 p.n) (hc : QB 200 p.c) (hv : VB 200 v) (h0 : ¬ (p.n.x = 0 ∧ p.n.y = 0 ∧ p.n.z = 0)) : Calls Tryz.prog 51 #[.agg #[.string (qs p.n.x), .string (qs p.n.y), .string (qs p.n.z), .string (qs p.c)], .agg #[.string (qs v.x), .string (qs v.y), .string (qs v.z)]] w (Ret w (.tuple #[.int .i64 (qcmp (p.n.x * v.x + p.n.y * v.y + p.n.z * v.z) p.c), .int .i64 0])) := by
  have HN := Lib.hid hn
  have HC := Lib.hid hc
  have HG := Lib.hid g
  have HV := Lib.hid hv
  have H0 := Lib.hid h0
  clear hn hc g hv h0
  go_enter Tryz.func51, Tryz.ntmps51
  go_wp2_with fail
  refine (vPlane_ok p _ (HG.out.ext (((Ext.refl w).alloc _).alloc _)) HN.out HC.out H0.out).mono ?_; rintro e w1 ⟨rfl, e1⟩
  have HX1 : Hid (Ext w w1) := Lib.hid ((((Ext.refl w).alloc _).alloc _).trans e1)
  have HB0_1 : Hid (Blk w1 (w.heap.size) #[.string (qs p.n.x), .string (qs p.n.y), .string (qs p.n.z), .string (qs p.c)] 48) := Lib.hid (Blk.ext ((Blk.new' (w := _) (cs := #[.string (qs p.n.x), .string (qs p.n.y), .string (qs p.n.z), .string (qs p.c)]) (t := 48) (by first | rfl | (simp only [World.size_alloc]; done) | (simp only [World.size_alloc]; omega) | simp)).alloc _) e1)
  have HB1_1 : Hid (Blk w1 (w.heap.size + 1) #[.string (qs v.x), .string (qs v.y), .string (qs v.z)] 30) := Lib.hid (Blk.ext (Blk.new' (w := _) (cs := #[.string (qs v.x), .string (qs v.y), .string (qs v.z)]) (t := 30) (by first | rfl | (simp only [World.size_alloc]; done) | (simp only [World.size_alloc]; omega) | simp)) e1)
  have HGEB0 : Hid (w.heap.size ≤ w.heap.size) := Lib.hid (by first | omega | (simp only []; omega) | (simp; omega))
  have HGEB1 : Hid (w.heap.size ≤ w.heap.size + 1) := Lib.hid (by first | omega | (simp only []; omega) | (simp; omega))
  clear e1
  have c1_0 := HB1_1.out.cell 0 rfl
  have c1_1 := HB1_1.out.cell 1 rfl
  have c1_2 := HB1_1.out.cell 2 rfl
  go_wp2_with fail
  refine (vCheck_ok v _ (HG.out.ext HX1.out) HV.out).mono ?_; rintro e w2 ⟨rfl, e2⟩
  have HX2 : Hid (Ext w w2) := Lib.hid (HX1.out.trans e2)
  have HB0_2 : Hid (Blk w2 (w.heap.size) #[.string (qs p.n.x), .string (qs p.n.y), .string (qs p.n.z), .string (qs p.c)] 48) := Lib.hid (Blk.ext HB0_1.out e2)
  have HB1_2 : Hid (Blk w2 (w.heap.size + 1) #[.string (qs v.x), .string (qs v.y), .string (qs v.z)] 30) := Lib.hid (Blk.ext HB1_1.out e2)
  clear e2 c1_0 c1_1 c1_2
  go_wp2_with fail
  refine wp_name (fun W => Ext w W ∧ Blk W (w.heap.size) #[.string (qs p.n.x), .string (qs p.n.y), .string (qs p.n.z), .string (qs p.c)] 48 ∧ Blk W (w.heap.size + 1) #[.string (qs v.x), .string (qs v.y), .string (qs v.z)] 30) ⟨HX2.out, HB0_2.out, HB1_2.out⟩ ?_
  rintro w3 ⟨e3, bB0_3, bB1_3⟩
  have HX3 := Lib.hid e3; have HB0_3 := Lib.hid bB0_3; have HB1_3 := Lib.hid bB1_3
  clear e3 bB0_3 bB1_3
  have hS3 : w3.cell? ⟨w.heap.size, 0, none⟩ = some (.string (qs p.n.x)) ∧ w3.cell? ⟨w.heap.size, 1, none⟩ = some (.string (qs p.n.y)) ∧ w3.cell? ⟨w.heap.size, 2, none⟩ = some (.string (qs p.n.z)) ∧ w3.cell? ⟨w.heap.size + 1, 0, none⟩ = some (.string (qs v.x)) ∧ w3.cell? ⟨w.heap.size + 1, 1, none⟩ = some (.string (qs v.y)) ∧ w3.cell? ⟨w.heap.size + 1, 2, none⟩ = some (.string (qs v.z)) ∧ w3.cell? ⟨w.heap.size, 3, none⟩ = some (.string (qs p.c)) := ⟨HB0_3.out.cell 0 rfl, HB0_3.out.cell 1 rfl, HB0_3.out.cell 2 rfl, HB1_3.out.cell 0 rfl, HB1_3.out.cell 1 rfl, HB1_3.out.cell 2 rfl, HB0_3.out.cell 3 rfl⟩
  have HS3 := Lib.hid hS3; clear hS3
  go_region_held3 (fun w' => w'.cell? ⟨w.heap.size, 0, none⟩ = some (.string (qs p.n.x)) ∧ w'.cell? ⟨w.heap.size, 1, none⟩ = some (.string (qs p.n.y)) ∧ w'.cell? ⟨w.heap.size, 2, none⟩ = some (.string (qs p.n.z)) ∧ w'.cell? ⟨w.heap.size + 1, 0, none⟩ = some (.string (qs v.x)) ∧ w'.cell? ⟨w.heap.size + 1, 1, none⟩ = some (.string (qs v.y)) ∧ w'.cell? ⟨w.heap.size + 1, 2, none⟩ = some (.string (qs v.z)) ∧ w'.cell? ⟨w.heap.size, 3, none⟩ = some (.string (qs p.c)))
    ((exact keepsH7 (by repeat (first | assumption | exact Ext.refl _ | apply Ext.drew | apply Ext.alloc | (refine Ext.setCell ?_ (by first | omega | (simp only []; omega) | (simp; omega)) _) | (refine Ext.trans ?_ (by assumption)))) HS3.out)) ((first
      | (go_at_call 87; ((with_reducible refine (vdot0_c p.n v _ (HG.out.ext (HX3.out.trans (by repeat (first | assumption | exact Ext.refl _ | apply Ext.drew | apply Ext.alloc | (refine Ext.setCell ?_ (by first | omega | (simp only []; omega) | (simp; omega)) _) | (refine Ext.trans ?_ (by assumption)))))) HN.out HV.out (by omega) (by omega)).mono ?_); rintro e w4 ⟨rfl, e4⟩))
      | (go_at_call 105; ((with_reducible refine (rcompare_c (p.n.x * v.x + p.n.y * v.y + p.n.z * v.z) p.c _ (HG.out.ext (HX3.out.trans (by repeat (first | assumption | exact Ext.refl _ | apply Ext.drew | apply Ext.alloc | (refine Ext.setCell ?_ (by first | omega | (simp only []; omega) | (simp; omega)) _) | (refine Ext.trans ?_ (by assumption)))))) (((HN.out.x.mul HV.out.x).add (HN.out.y.mul HV.out.y)).add (HN.out.z.mul HV.out.z)) HC.out (by omega) (by omega)).mono ?_); rintro e w5 ⟨rfl, e5⟩))))
  refine wp_name (fun W => Ext w W) (HX3.out.trans (((Ext.refl _).drew.trans e4).trans e5)) ?_
  rintro w6 e6
  have HX6 := Lib.hid e6
  clear e6
  go_wp2
  go_ret2
  exact ⟨rfl, HX6.out⟩

set_option maxRecDepth 100000 in
set_option maxHeartbeats 2000000 in
theorem vThrough_0 (a b : P2) (w : World) (g : Gd w) (ha : PB 200 a) (hb : PB 200 b) (hr : VB 200 ⟨a.y - b.y, b.x - a.x, (a.y - b.y) * a.x + (b.x - a.x) * a.y⟩) (h0 : a.x ≠ b.x) : Calls Tryz.prog 40 #[.agg #[.string (qs a.x), .string (qs a.y)], .agg #[.string (qs b.x), .string (qs b.y)]] w (Ret w (.tuple #[.agg #[.string (qs (a.y - b.y)), .string (qs (b.x - a.x)), .string (qs ((a.y - b.y) * a.x + (b.x - a.x) * a.y))], .int .i64 0])) := by
  have HA := Lib.hid ha
  have HB := Lib.hid hb
  have HR := Lib.hid hr
  have HG := Lib.hid g
  clear ha hb hr g
  have h0_t := qs_neL h0
  go_enter Tryz.func40, Tryz.ntmps40
  go_wp2_with fail
  refine (points2_ok a b (w.heap.size + 1 + 1 + 1) _ (HG.out.ext (((((Ext.refl w).alloc _).alloc _).alloc _).alloc _)) (HA.out.mono (by omega)) (HB.out.mono (by omega)) (Blk.new' (w := _) (cs := #[.string (qs a.x), .string (qs a.y), .string (qs b.x), .string (qs b.y)]) (t := 62) (by first | rfl | (simp only [World.size_alloc]; done) | (simp only [World.size_alloc]; omega) | simp))).mono ?_; rintro e w1 ⟨rfl, e1⟩
  have HX1 : Hid (Ext w w1) := Lib.hid ((((((Ext.refl w).alloc _).alloc _).alloc _).alloc _).trans e1)
  have HB0_1 : Hid (Blk w1 (w.heap.size) #[.string (qs a.x), .string (qs a.y)] 62) := Lib.hid (Blk.ext ((((Blk.new' (w := _) (cs := #[.string (qs a.x), .string (qs a.y)]) (t := 62) (by first | rfl | (simp only [World.size_alloc]; done) | (simp only [World.size_alloc]; omega) | simp)).alloc _).alloc _).alloc _) e1)
  have HB1_1 : Hid (Blk w1 (w.heap.size + 1) #[.string (qs b.x), .string (qs b.y)] 62) := Lib.hid (Blk.ext (((Blk.new' (w := _) (cs := #[.string (qs b.x), .string (qs b.y)]) (t := 62) (by first | rfl | (simp only [World.size_alloc]; done) | (simp only [World.size_alloc]; omega) | simp)).alloc _).alloc _) e1)
  have HB2_1 : Hid (Blk w1 (w.heap.size + 1 + 1) #[.string ⟨#[]⟩, .string ⟨#[]⟩, .string ⟨#[]⟩] 73) := Lib.hid (Blk.ext ((Blk.new' (w := _) (cs := #[.string ⟨#[]⟩, .string ⟨#[]⟩, .string ⟨#[]⟩]) (t := 73) (by first | rfl | (simp only [World.size_alloc]; done) | (simp only [World.size_alloc]; omega) | simp)).alloc _) e1)
  have HB3_1 : Hid (Blk w1 (w.heap.size + 1 + 1 + 1) #[.string (qs a.x), .string (qs a.y), .string (qs b.x), .string (qs b.y)] 62) := Lib.hid (Blk.ext (Blk.new' (w := _) (cs := #[.string (qs a.x), .string (qs a.y), .string (qs b.x), .string (qs b.y)]) (t := 62) (by first | rfl | (simp only [World.size_alloc]; done) | (simp only [World.size_alloc]; omega) | simp)) e1)
  have HGEB0 : Hid (w.heap.size ≤ w.heap.size) := Lib.hid (by first | omega | (simp only []; omega) | (simp; omega))
  have HGEB1 : Hid (w.heap.size ≤ w.heap.size + 1) := Lib.hid (by first | omega | (simp only []; omega) | (simp; omega))
  have HGEB2 : Hid (w.heap.size ≤ w.heap.size + 1 + 1) := Lib.hid (by first | omega | (simp only []; omega) | (simp; omega))
  have HGEB3 : Hid (w.heap.size ≤ w.heap.size + 1 + 1 + 1) := Lib.hid (by first | omega | (simp only []; omega) | (simp; omega))
  clear e1
  have c0_0 := HB0_1.out.cell 0 rfl
  have c0_1 := HB0_1.out.cell 1 rfl
  have c1_0 := HB1_1.out.cell 0 rfl
  have c1_1 := HB1_1.out.cell 1 rfl
  go_wp2_with fail
  refine wp_name (fun W => Ext w W ∧ Blk W (w.heap.size) #[.string (qs a.x), .string (qs a.y)] 62 ∧ Blk W (w.heap.size + 1) #[.string (qs b.x), .string (qs b.y)] 62 ∧ Blk W (w.heap.size + 1 + 1) #[.string ⟨#[]⟩, .string ⟨#[]⟩, .string ⟨#[]⟩] 73) ⟨HX1.out, HB0_1.out, HB1_1.out, HB2_1.out⟩ ?_
  rintro w2 ⟨e2, bB0_2, bB1_2, bB2_2⟩
  have HX2 := Lib.hid e2; have HB0_2 := Lib.hid bB0_2; have HB1_2 := Lib.hid bB1_2; have HB2_2 := Lib.hid bB2_2
  clear e2 bB0_2 bB1_2 bB2_2 c0_0 c0_1 c1_0 c1_1
  have hS2 : w2.cell? ⟨w.heap.size, 1, none⟩ = some (.string (qs a.y)) ∧ w2.cell? ⟨w.heap.size + 1, 1, none⟩ = some (.string (qs b.y)) ∧ w2.cell? ⟨w.heap.size + 1, 0, none⟩ = some (.string (qs b.x)) ∧ w2.cell? ⟨w.heap.size, 0, none⟩ = some (.string (qs a.x)) := ⟨HB0_2.out.cell 1 rfl, HB1_2.out.cell 1 rfl, HB1_2.out.cell 0 rfl, HB0_2.out.cell 0 rfl⟩
  have HS2 := Lib.hid hS2; clear hS2
  go_cut [7] from 20 to 30 (fun p7 wx => ∃ i4 : Nat, p7 = .pointer (some ⟨i4, 0, none⟩) ∧ w2.heap.size ≤ i4 ∧ Ext w2 wx ∧ Blk wx i4 #[.string (qs (a.y - b.y)), .string (qs (b.x - a.x)), .string ⟨#[]⟩] 73)
  case first =>
    go_region_held3 (fun w' => w'.cell? ⟨w.heap.size, 1, none⟩ = some (.string (qs a.y)) ∧ w'.cell? ⟨w.heap.size + 1, 1, none⟩ = some (.string (qs b.y)) ∧ w'.cell? ⟨w.heap.size + 1, 0, none⟩ = some (.string (qs b.x)) ∧ w'.cell? ⟨w.heap.size, 0, none⟩ = some (.string (qs a.x)))
      ((exact keepsH4 (by repeat (first | assumption | exact Ext.refl _ | apply Ext.drew | apply Ext.alloc | (refine Ext.setCell ?_ (by first | omega | (simp only []; omega) | (simp; omega)) _) | (refine Ext.trans ?_ (by assumption)))) HS2.out)) (first
      | (go_at_call 93; ((with_reducible refine (rsub_c a.y b.y _ (HG.out.ext (HX2.out.trans (by repeat (first | assumption | exact Ext.refl _ | apply Ext.drew | apply Ext.alloc | (refine Ext.setCell ?_ (by first | omega | (simp only []; omega) | (simp; omega)) _) | (refine Ext.trans ?_ (by assumption)))))) HA.out.y HB.out.y (by omega) (by omega)).mono ?_); rintro e w3 ⟨rfl, e3⟩; have z3 := e3.size; (try simp at z3); (first | (have N3 : Blk w3 w2.heap.size #[.string ⟨#[]⟩, .string ⟨#[]⟩, .string ⟨#[]⟩] 73 := Blk.ext (Blk.new' (by rfl)) e3) | (have N3 : Blk w3 w2.heap.size #[.string ⟨#[]⟩, .string ⟨#[]⟩, .string ⟨#[]⟩] 73 := Blk.ext (Blk.drew (Blk.new' (by rfl))) e3) | skip)))
      | (go_at_call 93; ((with_reducible refine (rsub_c b.x a.x _ (HG.out.ext (HX2.out.trans (by repeat (first | assumption | exact Ext.refl _ | apply Ext.drew | apply Ext.alloc | (refine Ext.setCell ?_ (by first | omega | (simp only []; omega) | (simp; omega)) _) | (refine Ext.trans ?_ (by assumption)))))) HB.out.x HA.out.x (by omega) (by omega)).mono ?_); rintro e w4 ⟨rfl, e4⟩; have z4 := e4.size; (try simp at z4); (first | (have N4 : Blk w4 w3.heap.size #[.string ⟨#[]⟩, .string ⟨#[]⟩, .string ⟨#[]⟩] 73 := Blk.ext (Blk.new' (by rfl)) e4) | (have N4 : Blk w4 w3.heap.size #[.string ⟨#[]⟩, .string ⟨#[]⟩, .string ⟨#[]⟩] 73 := Blk.ext (Blk.drew (Blk.new' (by rfl))) e4) | (have N4 := Blk.ext N3 e4) | skip); (first | (have q0 := N4.cell 0 rfl; have f0 := N4.free 0; have q1 := N4.cell 1 rfl; have f1 := N4.free 1; have q2 := N4.cell 2 rfl; have f2 := N4.free 2) | skip))))
    all_goals (go_wp2_with fail; go_meet)
    all_goals (refine ⟨_, rfl, by first | omega | (simp; omega), (by repeat (first | assumption | exact Ext.refl _ | apply Ext.drew | apply Ext.alloc | (refine Ext.setCell ?_ (by first | omega | (simp only []; omega) | (simp; omega)) _) | (refine Ext.trans ?_ (by assumption)))), ?_⟩)
    all_goals (repeat (first | assumption | (refine Blk.new' ?_; first | rfl | (simp only [World.size_alloc]; done) | (simp only [World.size_alloc]; omega)) | apply Blk.alloc | apply Blk.drew | (exact Blk.fill3 (by assumption)) | (refine Blk.ext ?_ (by assumption))))
  obtain ⟨i4, rfl, hgeB4, e5, bB4⟩ := hcut
  rename World => w5
  have HX5 : Hid (Ext w w5) := Lib.hid (HX2.out.trans e5)
  have HB0_5 := Lib.hid (HB0_2.out.ext e5)
  have HB2_5 := Lib.hid (HB2_2.out.ext e5)
  have HB4_5 := Lib.hid bB4; have HGEB4 : Hid (w.heap.size ≤ i4) := Lib.hid (Nat.le_trans HX2.out.size hgeB4)
  have HNEB0B4 : Hid (w.heap.size ≠ i4) := Lib.hid (by have := HB0_2.out.lt; omega)
  have HNEB2B4 : Hid (w.heap.size + 1 + 1 ≠ i4) := Lib.hid (by have := HB2_2.out.lt; omega)
  clear hgeB4 e5 bB4
  go_wp2_with fail
  refine wp_name (fun W => Ext w W ∧ Blk W (w.heap.size) #[.string (qs a.x), .string (qs a.y)] 62 ∧ Blk W (w.heap.size + 1 + 1) #[.string ⟨#[]⟩, .string ⟨#[]⟩, .string ⟨#[]⟩] 73 ∧ Blk W (i4) #[.string (qs (a.y - b.y)), .string (qs (b.x - a.x)), .string ⟨#[]⟩] 73) ⟨HX5.out, HB0_5.out, HB2_5.out, HB4_5.out⟩ ?_
  rintro w6 ⟨e6, bB0_6, bB2_6, bB4_6⟩
  have HX6 := Lib.hid e6; have HB0_6 := Lib.hid bB0_6; have HB2_6 := Lib.hid bB2_6; have HB4_6 := Lib.hid bB4_6
  clear e6 bB0_6 bB2_6 bB4_6
  have hS6 : w6.cell? ⟨i4, 0, none⟩ = some (.string (qs (a.y - b.y))) ∧ w6.cell? ⟨w.heap.size, 0, none⟩ = some (.string (qs a.x)) ∧ w6.cell? ⟨i4, 1, none⟩ = some (.string (qs (b.x - a.x))) ∧ w6.cell? ⟨w.heap.size, 1, none⟩ = some (.string (qs a.y)) := ⟨HB4_6.out.cell 0 rfl, HB0_6.out.cell 0 rfl, HB4_6.out.cell 1 rfl, HB0_6.out.cell 1 rfl⟩
  have HS6 := Lib.hid hS6; clear hS6
  go_region_held3 (fun w' => w'.cell? ⟨i4, 0, none⟩ = some (.string (qs (a.y - b.y))) ∧ w'.cell? ⟨w.heap.size, 0, none⟩ = some (.string (qs a.x)) ∧ w'.cell? ⟨i4, 1, none⟩ = some (.string (qs (b.x - a.x))) ∧ w'.cell? ⟨w.heap.size, 1, none⟩ = some (.string (qs a.y)))
    (((try simp only [cell_set_off (b := i4) (show (0 : Nat) ≠ 2 by decide), cell_set_off (b := i4) (show (1 : Nat) ≠ 2 by decide), cell_set_ne (show w.heap.size ≠ i4 from HNEB0B4.out)]); exact keepsH4 (by repeat (first | assumption | exact Ext.refl _ | apply Ext.drew | apply Ext.alloc | (refine Ext.setCell ?_ (by first | omega | (simp only []; omega) | (simp; omega)) _) | (refine Ext.trans ?_ (by assumption)))) HS6.out)) ((first
      | (go_at_call 95; ((with_reducible refine (rmul_c (a.y - b.y) a.x _ (HG.out.ext (HX6.out.trans (by repeat (first | assumption | exact Ext.refl _ | apply Ext.drew | apply Ext.alloc | (refine Ext.setCell ?_ (by first | omega | (simp only []; omega) | (simp; omega)) _) | (refine Ext.trans ?_ (by assumption)))))) (HA.out.y.sub HB.out.y) HA.out.x (by omega) (by omega)).mono ?_); rintro e w7 ⟨rfl, e7⟩))
      | (go_at_call 95; ((with_reducible refine (rmul_c (b.x - a.x) a.y _ (HG.out.ext (HX6.out.trans (by repeat (first | assumption | exact Ext.refl _ | apply Ext.drew | apply Ext.alloc | (refine Ext.setCell ?_ (by first | omega | (simp only []; omega) | (simp; omega)) _) | (refine Ext.trans ?_ (by assumption)))))) (HB.out.x.sub HA.out.x) HA.out.y (by omega) (by omega)).mono ?_); rintro e w8 ⟨rfl, e8⟩))
      | (go_at_call 89; ((with_reducible refine (radd_c ((a.y - b.y) * a.x) ((b.x - a.x) * a.y) _ (HG.out.ext (HX6.out.trans (by repeat (first | assumption | exact Ext.refl _ | apply Ext.drew | apply Ext.alloc | (refine Ext.setCell ?_ (by first | omega | (simp only []; omega) | (simp; omega)) _) | (refine Ext.trans ?_ (by assumption)))))) ((HA.out.y.sub HB.out.y).mul HA.out.x) ((HB.out.x.sub HA.out.x).mul HA.out.y) (by omega) (by omega)).mono ?_); rintro e w9 ⟨rfl, e9⟩; have RB4 := Blk.ext HB4_6.out (w' := w9) (by repeat (first | assumption | exact Ext.refl _ | apply Ext.drew | (refine Ext.trans ?_ (by assumption)))); have cB4_2 := RB4.cell 2 rfl; have fB4_2 := RB4.free 2; have HRB4 := Lib.hid RB4; clear RB4))))
  refine wp_name (fun W => Ext w W ∧ Blk W (w.heap.size + 1 + 1) #[.string ⟨#[]⟩, .string ⟨#[]⟩, .string ⟨#[]⟩] 73 ∧ Blk W (i4) #[.string (qs (a.y - b.y)), .string (qs (b.x - a.x)), .string (qs ((a.y - b.y) * a.x + (b.x - a.x) * a.y))] 73) ⟨((HX6.out.trans ((((Ext.refl _).drew.trans e7).trans e8).trans e9)).setCell (by have := HGEB4.out; first | omega | (simp only []; omega) | (simp; omega)) _), ((Blk.ext HB2_6.out ((((Ext.refl _).drew.trans e7).trans e8).trans e9)).other (a := ⟨i4, 2, none⟩) _ (HNEB2B4.out)), ((Blk.ext HB4_6.out ((((Ext.refl _).drew.trans e7).trans e8).trans e9)).set 2 (.string (qs ((a.y - b.y) * a.x + (b.x - a.x) * a.y))))⟩ ?_
  clear cB4_2 fB4_2
  rintro w10 ⟨e10, bB2_10, bB4_10⟩
  have HX10 := Lib.hid e10; have HB2_10 := Lib.hid bB2_10; have HB4_10 := Lib.hid bB4_10
  clear e10 bB2_10 bB4_10
  have c4_0 := HB4_10.out.cell 0 rfl
  go_wp2_with fail
  refine (long_no (a.y - b.y) _ HR.out.x).mono ?_; rintro e w11 ⟨rfl, e11⟩
  have HX11 : Hid (Ext w w11) := Lib.hid (HX10.out.trans e11)
  have HB2_11 : Hid (Blk w11 (w.heap.size + 1 + 1) #[.string ⟨#[]⟩, .string ⟨#[]⟩, .string ⟨#[]⟩] 73) := Lib.hid (Blk.ext HB2_10.out e11)
  have HB4_11 : Hid (Blk w11 (i4) #[.string (qs (a.y - b.y)), .string (qs (b.x - a.x)), .string (qs ((a.y - b.y) * a.x + (b.x - a.x) * a.y))] 73) := Lib.hid (Blk.ext HB4_10.out e11)
  clear e11 c4_0
  have c4_1 := HB4_11.out.cell 1 rfl
  go_wp2_with fail
  refine (long_no (b.x - a.x) _ HR.out.y).mono ?_; rintro e w12 ⟨rfl, e12⟩
  have HX12 : Hid (Ext w w12) := Lib.hid (HX11.out.trans e12)
  have HB2_12 : Hid (Blk w12 (w.heap.size + 1 + 1) #[.string ⟨#[]⟩, .string ⟨#[]⟩, .string ⟨#[]⟩] 73) := Lib.hid (Blk.ext HB2_11.out e12)
  have HB4_12 : Hid (Blk w12 (i4) #[.string (qs (a.y - b.y)), .string (qs (b.x - a.x)), .string (qs ((a.y - b.y) * a.x + (b.x - a.x) * a.y))] 73) := Lib.hid (Blk.ext HB4_11.out e12)
  clear e12 c4_1
  have c4_2 := HB4_12.out.cell 2 rfl
  go_wp2_with fail
  refine (long_no ((a.y - b.y) * a.x + (b.x - a.x) * a.y) _ HR.out.z).mono ?_; rintro e w13 ⟨rfl, e13⟩
  have HX13 : Hid (Ext w w13) := Lib.hid (HX12.out.trans e13)
  have HB2_13 : Hid (Blk w13 (w.heap.size + 1 + 1) #[.string ⟨#[]⟩, .string ⟨#[]⟩, .string ⟨#[]⟩] 73) := Lib.hid (Blk.ext HB2_12.out e13)
  have HB4_13 : Hid (Blk w13 (i4) #[.string (qs (a.y - b.y)), .string (qs (b.x - a.x)), .string (qs ((a.y - b.y) * a.x + (b.x - a.x) * a.y))] 73) := Lib.hid (Blk.ext HB4_12.out e13)
  clear e13 c4_2
  have c4_0 := HB4_13.out.cell 0 rfl
  have c4_1 := HB4_13.out.cell 1 rfl
  have c4_2 := HB4_13.out.cell 2 rfl
  have c2_0 := HB2_13.out.cell 0 rfl
  have f2_0 := HB2_13.out.free 0
  have c2_1 := HB2_13.out.cell 1 rfl
  have f2_1 := HB2_13.out.free 1
  have c2_2 := HB2_13.out.cell 2 rfl
  have f2_2 := HB2_13.out.free 2
  go_wp2_with fail
  refine wp_name (fun W => Ext w W ∧ Blk W (w.heap.size + 1 + 1) #[.string (qs (a.y - b.y)), .string (qs (b.x - a.x)), .string (qs ((a.y - b.y) * a.x + (b.x - a.x) * a.y))] 73) ⟨(((HX13.out.setCell (by have := HGEB2.out; first | omega | (simp only []; omega) | (simp; omega)) _).setCell (by have := HGEB2.out; first | omega | (simp only []; omega) | (simp; omega)) _).setCell (by have := HGEB2.out; first | omega | (simp only []; omega) | (simp; omega)) _), (((HB2_13.out.set 0 (.string (qs (a.y - b.y)))).set 1 (.string (qs (b.x - a.x)))).set 2 (.string (qs ((a.y - b.y) * a.x + (b.x - a.x) * a.y))))⟩ ?_
  rintro w14 ⟨e14, bB2_14⟩
  have HX14 := Lib.hid e14; have HB2_14 := Lib.hid bB2_14
  clear e14 bB2_14 c4_0 c4_1 c4_2 c2_0 f2_0 c2_1 f2_1 c2_2 f2_2
  have gB2_0 := HB2_14.out.cell 0 rfl
  have gB2_1 := HB2_14.out.cell 1 rfl
  have gB2_2 := HB2_14.out.cell 2 rfl
  refine bodyPost_ret (v := .tuple #[.agg #[.string (qs (a.y - b.y)), .string (qs (b.x - a.x)), .string (qs ((a.y - b.y) * a.x + (b.x - a.x) * a.y))], .int .i64 0]) (by simp [results, Tryz.results40, go_sem, gB2_0, gB2_1, gB2_2]) rfl ⟨rfl, HX14.out⟩

set_option maxRecDepth 100000 in
set_option maxHeartbeats 2000000 in
theorem vThrough_1 (a b : P2) (w : World) (g : Gd w) (ha : PB 200 a) (hb : PB 200 b) (hr : VB 200 ⟨a.y - b.y, b.x - a.x, (a.y - b.y) * a.x + (b.x - a.x) * a.y⟩) (h0 : a.x = b.x) (h1 : a.y ≠ b.y) : Calls Tryz.prog 40 #[.agg #[.string (qs a.x), .string (qs a.y)], .agg #[.string (qs b.x), .string (qs b.y)]] w (Ret w (.tuple #[.agg #[.string (qs (a.y - b.y)), .string (qs (b.x - a.x)), .string (qs ((a.y - b.y) * a.x + (b.x - a.x) * a.y))], .int .i64 0])) := by
  have HA := Lib.hid ha
  have HB := Lib.hid hb
  have HR := Lib.hid hr
  have HG := Lib.hid g
  clear ha hb hr g
  have h0_t := qs_eqL h0
  have h1_t := qs_neL h1
  clear h0
  go_enter Tryz.func40, Tryz.ntmps40
  go_wp2_with fail
  refine (points2_ok a b (w.heap.size + 1 + 1 + 1) _ (HG.out.ext (((((Ext.refl w).alloc _).alloc _).alloc _).alloc _)) (HA.out.mono (by omega)) (HB.out.mono (by omega)) (Blk.new' (w := _) (cs := #[.string (qs a.x), .string (qs a.y), .string (qs b.x), .string (qs b.y)]) (t := 62) (by first | rfl | (simp only [World.size_alloc]; done) | (simp only [World.size_alloc]; omega) | simp))).mono ?_; rintro e w1 ⟨rfl, e1⟩
  have HX1 : Hid (Ext w w1) := Lib.hid ((((((Ext.refl w).alloc _).alloc _).alloc _).alloc _).trans e1)
  have HB0_1 : Hid (Blk w1 (w.heap.size) #[.string (qs a.x), .string (qs a.y)] 62) := Lib.hid (Blk.ext ((((Blk.new' (w := _) (cs := #[.string (qs a.x), .string (qs a.y)]) (t := 62) (by first | rfl | (simp only [World.size_alloc]; done) | (simp only [World.size_alloc]; omega) | simp)).alloc _).alloc _).alloc _) e1)
  have HB1_1 : Hid (Blk w1 (w.heap.size + 1) #[.string (qs b.x), .string (qs b.y)] 62) := Lib.hid (Blk.ext (((Blk.new' (w := _) (cs := #[.string (qs b.x), .string (qs b.y)]) (t := 62) (by first | rfl | (simp only [World.size_alloc]; done) | (simp only [World.size_alloc]; omega) | simp)).alloc _).alloc _) e1)
  have HB2_1 : Hid (Blk w1 (w.heap.size + 1 + 1) #[.string ⟨#[]⟩, .string ⟨#[]⟩, .string ⟨#[]⟩] 73) := Lib.hid (Blk.ext ((Blk.new' (w := _) (cs := #[.string ⟨#[]⟩, .string ⟨#[]⟩, .string ⟨#[]⟩]) (t := 73) (by first | rfl | (simp only [World.size_alloc]; done) | (simp only [World.size_alloc]; omega) | simp)).alloc _) e1)
  have HB3_1 : Hid (Blk w1 (w.heap.size + 1 + 1 + 1) #[.string (qs a.x), .string (qs a.y), .string (qs b.x), .string (qs b.y)] 62) := Lib.hid (Blk.ext (Blk.new' (w := _) (cs := #[.string (qs a.x), .string (qs a.y), .string (qs b.x), .string (qs b.y)]) (t := 62) (by first | rfl | (simp only [World.size_alloc]; done) | (simp only [World.size_alloc]; omega) | simp)) e1)
  have HGEB0 : Hid (w.heap.size ≤ w.heap.size) := Lib.hid (by first | omega | (simp only []; omega) | (simp; omega))
  have HGEB1 : Hid (w.heap.size ≤ w.heap.size + 1) := Lib.hid (by first | omega | (simp only []; omega) | (simp; omega))
  have HGEB2 : Hid (w.heap.size ≤ w.heap.size + 1 + 1) := Lib.hid (by first | omega | (simp only []; omega) | (simp; omega))
  have HGEB3 : Hid (w.heap.size ≤ w.heap.size + 1 + 1 + 1) := Lib.hid (by first | omega | (simp only []; omega) | (simp; omega))
  clear e1
  have c0_0 := HB0_1.out.cell 0 rfl
  have c0_1 := HB0_1.out.cell 1 rfl
  have c1_0 := HB1_1.out.cell 0 rfl
  have c1_1 := HB1_1.out.cell 1 rfl
  go_wp2_with fail
  refine wp_name (fun W => Ext w W ∧ Blk W (w.heap.size) #[.string (qs a.x), .string (qs a.y)] 62 ∧ Blk W (w.heap.size + 1) #[.string (qs b.x), .string (qs b.y)] 62 ∧ Blk W (w.heap.size + 1 + 1) #[.string ⟨#[]⟩, .string ⟨#[]⟩, .string ⟨#[]⟩] 73) ⟨HX1.out, HB0_1.out, HB1_1.out, HB2_1.out⟩ ?_
  rintro w2 ⟨e2, bB0_2, bB1_2, bB2_2⟩
  have HX2 := Lib.hid e2; have HB0_2 := Lib.hid bB0_2; have HB1_2 := Lib.hid bB1_2; have HB2_2 := Lib.hid bB2_2
  clear e2 bB0_2 bB1_2 bB2_2 c0_0 c0_1 c1_0 c1_1
  have hS2 : w2.cell? ⟨w.heap.size, 1, none⟩ = some (.string (qs a.y)) ∧ w2.cell? ⟨w.heap.size + 1, 1, none⟩ = some (.string (qs b.y)) ∧ w2.cell? ⟨w.heap.size + 1, 0, none⟩ = some (.string (qs b.x)) ∧ w2.cell? ⟨w.heap.size, 0, none⟩ = some (.string (qs a.x)) := ⟨HB0_2.out.cell 1 rfl, HB1_2.out.cell 1 rfl, HB1_2.out.cell 0 rfl, HB0_2.out.cell 0 rfl⟩
  have HS2 := Lib.hid hS2; clear hS2
  go_cut [7] from 20 to 30 (fun p7 wx => ∃ i4 : Nat, p7 = .pointer (some ⟨i4, 0, none⟩) ∧ w2.heap.size ≤ i4 ∧ Ext w2 wx ∧ Blk wx i4 #[.string (qs (a.y - b.y)), .string (qs (b.x - a.x)), .string ⟨#[]⟩] 73)
  case first =>
    go_region_held3 (fun w' => w'.cell? ⟨w.heap.size, 1, none⟩ = some (.string (qs a.y)) ∧ w'.cell? ⟨w.heap.size + 1, 1, none⟩ = some (.string (qs b.y)) ∧ w'.cell? ⟨w.heap.size + 1, 0, none⟩ = some (.string (qs b.x)) ∧ w'.cell? ⟨w.heap.size, 0, none⟩ = some (.string (qs a.x)))
      ((exact keepsH4 (by repeat (first | assumption | exact Ext.refl _ | apply Ext.drew | apply Ext.alloc | (refine Ext.setCell ?_ (by first | omega | (simp only []; omega) | (simp; omega)) _) | (refine Ext.trans ?_ (by assumption)))) HS2.out)) (first
      | (go_at_call 93; ((with_reducible refine (rsub_c a.y b.y _ (HG.out.ext (HX2.out.trans (by repeat (first | assumption | exact Ext.refl _ | apply Ext.drew | apply Ext.alloc | (refine Ext.setCell ?_ (by first | omega | (simp only []; omega) | (simp; omega)) _) | (refine Ext.trans ?_ (by assumption)))))) HA.out.y HB.out.y (by omega) (by omega)).mono ?_); rintro e w3 ⟨rfl, e3⟩; have z3 := e3.size; (try simp at z3); (first | (have N3 : Blk w3 w2.heap.size #[.string ⟨#[]⟩, .string ⟨#[]⟩, .string ⟨#[]⟩] 73 := Blk.ext (Blk.new' (by rfl)) e3) | (have N3 : Blk w3 w2.heap.size #[.string ⟨#[]⟩, .string ⟨#[]⟩, .string ⟨#[]⟩] 73 := Blk.ext (Blk.drew (Blk.new' (by rfl))) e3) | skip)))
      | (go_at_call 93; ((with_reducible refine (rsub_c b.x a.x _ (HG.out.ext (HX2.out.trans (by repeat (first | assumption | exact Ext.refl _ | apply Ext.drew | apply Ext.alloc | (refine Ext.setCell ?_ (by first | omega | (simp only []; omega) | (simp; omega)) _) | (refine Ext.trans ?_ (by assumption)))))) HB.out.x HA.out.x (by omega) (by omega)).mono ?_); rintro e w4 ⟨rfl, e4⟩; have z4 := e4.size; (try simp at z4); (first | (have N4 : Blk w4 w3.heap.size #[.string ⟨#[]⟩, .string ⟨#[]⟩, .string ⟨#[]⟩] 73 := Blk.ext (Blk.new' (by rfl)) e4) | (have N4 : Blk w4 w3.heap.size #[.string ⟨#[]⟩, .string ⟨#[]⟩, .string ⟨#[]⟩] 73 := Blk.ext (Blk.drew (Blk.new' (by rfl))) e4) | (have N4 := Blk.ext N3 e4) | skip); (first | (have q0 := N4.cell 0 rfl; have f0 := N4.free 0; have q1 := N4.cell 1 rfl; have f1 := N4.free 1; have q2 := N4.cell 2 rfl; have f2 := N4.free 2) | skip))))
    all_goals (go_wp2_with fail; go_meet)
    all_goals (refine ⟨_, rfl, by first | omega | (simp; omega), (by repeat (first | assumption | exact Ext.refl _ | apply Ext.drew | apply Ext.alloc | (refine Ext.setCell ?_ (by first | omega | (simp only []; omega) | (simp; omega)) _) | (refine Ext.trans ?_ (by assumption)))), ?_⟩)
    all_goals (repeat (first | assumption | (refine Blk.new' ?_; first | rfl | (simp only [World.size_alloc]; done) | (simp only [World.size_alloc]; omega)) | apply Blk.alloc | apply Blk.drew | (exact Blk.fill3 (by assumption)) | (refine Blk.ext ?_ (by assumption))))
  obtain ⟨i4, rfl, hgeB4, e5, bB4⟩ := hcut
  rename World => w5
  have HX5 : Hid (Ext w w5) := Lib.hid (HX2.out.trans e5)
  have HB0_5 := Lib.hid (HB0_2.out.ext e5)
  have HB2_5 := Lib.hid (HB2_2.out.ext e5)
  have HB4_5 := Lib.hid bB4; have HGEB4 : Hid (w.heap.size ≤ i4) := Lib.hid (Nat.le_trans HX2.out.size hgeB4)
  have HNEB0B4 : Hid (w.heap.size ≠ i4) := Lib.hid (by have := HB0_2.out.lt; omega)
  have HNEB2B4 : Hid (w.heap.size + 1 + 1 ≠ i4) := Lib.hid (by have := HB2_2.out.lt; omega)
  clear hgeB4 e5 bB4
  go_wp2_with fail
  refine wp_name (fun W => Ext w W ∧ Blk W (w.heap.size) #[.string (qs a.x), .string (qs a.y)] 62 ∧ Blk W (w.heap.size + 1 + 1) #[.string ⟨#[]⟩, .string ⟨#[]⟩, .string ⟨#[]⟩] 73 ∧ Blk W (i4) #[.string (qs (a.y - b.y)), .string (qs (b.x - a.x)), .string ⟨#[]⟩] 73) ⟨HX5.out, HB0_5.out, HB2_5.out, HB4_5.out⟩ ?_
  rintro w6 ⟨e6, bB0_6, bB2_6, bB4_6⟩
  have HX6 := Lib.hid e6; have HB0_6 := Lib.hid bB0_6; have HB2_6 := Lib.hid bB2_6; have HB4_6 := Lib.hid bB4_6
  clear e6 bB0_6 bB2_6 bB4_6
  have hS6 : w6.cell? ⟨i4, 0, none⟩ = some (.string (qs (a.y - b.y))) ∧ w6.cell? ⟨w.heap.size, 0, none⟩ = some (.string (qs a.x)) ∧ w6.cell? ⟨i4, 1, none⟩ = some (.string (qs (b.x - a.x))) ∧ w6.cell? ⟨w.heap.size, 1, none⟩ = some (.string (qs a.y)) := ⟨HB4_6.out.cell 0 rfl, HB0_6.out.cell 0 rfl, HB4_6.out.cell 1 rfl, HB0_6.out.cell 1 rfl⟩
  have HS6 := Lib.hid hS6; clear hS6
  go_region_held3 (fun w' => w'.cell? ⟨i4, 0, none⟩ = some (.string (qs (a.y - b.y))) ∧ w'.cell? ⟨w.heap.size, 0, none⟩ = some (.string (qs a.x)) ∧ w'.cell? ⟨i4, 1, none⟩ = some (.string (qs (b.x - a.x))) ∧ w'.cell? ⟨w.heap.size, 1, none⟩ = some (.string (qs a.y)))
    (((try simp only [cell_set_off (b := i4) (show (0 : Nat) ≠ 2 by decide), cell_set_off (b := i4) (show (1 : Nat) ≠ 2 by decide), cell_set_ne (show w.heap.size ≠ i4 from HNEB0B4.out)]); exact keepsH4 (by repeat (first | assumption | exact Ext.refl _ | apply Ext.drew | apply Ext.alloc | (refine Ext.setCell ?_ (by first | omega | (simp only []; omega) | (simp; omega)) _) | (refine Ext.trans ?_ (by assumption)))) HS6.out)) ((first
      | (go_at_call 95; ((with_reducible refine (rmul_c (a.y - b.y) a.x _ (HG.out.ext (HX6.out.trans (by repeat (first | assumption | exact Ext.refl _ | apply Ext.drew | apply Ext.alloc | (refine Ext.setCell ?_ (by first | omega | (simp only []; omega) | (simp; omega)) _) | (refine Ext.trans ?_ (by assumption)))))) (HA.out.y.sub HB.out.y) HA.out.x (by omega) (by omega)).mono ?_); rintro e w7 ⟨rfl, e7⟩))
      | (go_at_call 95; ((with_reducible refine (rmul_c (b.x - a.x) a.y _ (HG.out.ext (HX6.out.trans (by repeat (first | assumption | exact Ext.refl _ | apply Ext.drew | apply Ext.alloc | (refine Ext.setCell ?_ (by first | omega | (simp only []; omega) | (simp; omega)) _) | (refine Ext.trans ?_ (by assumption)))))) (HB.out.x.sub HA.out.x) HA.out.y (by omega) (by omega)).mono ?_); rintro e w8 ⟨rfl, e8⟩))
      | (go_at_call 89; ((with_reducible refine (radd_c ((a.y - b.y) * a.x) ((b.x - a.x) * a.y) _ (HG.out.ext (HX6.out.trans (by repeat (first | assumption | exact Ext.refl _ | apply Ext.drew | apply Ext.alloc | (refine Ext.setCell ?_ (by first | omega | (simp only []; omega) | (simp; omega)) _) | (refine Ext.trans ?_ (by assumption)))))) ((HA.out.y.sub HB.out.y).mul HA.out.x) ((HB.out.x.sub HA.out.x).mul HA.out.y) (by omega) (by omega)).mono ?_); rintro e w9 ⟨rfl, e9⟩; have RB4 := Blk.ext HB4_6.out (w' := w9) (by repeat (first | assumption | exact Ext.refl _ | apply Ext.drew | (refine Ext.trans ?_ (by assumption)))); have cB4_2 := RB4.cell 2 rfl; have fB4_2 := RB4.free 2; have HRB4 := Lib.hid RB4; clear RB4))))
  refine wp_name (fun W => Ext w W ∧ Blk W (w.heap.size + 1 + 1) #[.string ⟨#[]⟩, .string ⟨#[]⟩, .string ⟨#[]⟩] 73 ∧ Blk W (i4) #[.string (qs (a.y - b.y)), .string (qs (b.x - a.x)), .string (qs ((a.y - b.y) * a.x + (b.x - a.x) * a.y))] 73) ⟨((HX6.out.trans ((((Ext.refl _).drew.trans e7).trans e8).trans e9)).setCell (by have := HGEB4.out; first | omega | (simp only []; omega) | (simp; omega)) _), ((Blk.ext HB2_6.out ((((Ext.refl _).drew.trans e7).trans e8).trans e9)).other (a := ⟨i4, 2, none⟩) _ (HNEB2B4.out)), ((Blk.ext HB4_6.out ((((Ext.refl _).drew.trans e7).trans e8).trans e9)).set 2 (.string (qs ((a.y - b.y) * a.x + (b.x - a.x) * a.y))))⟩ ?_
  clear cB4_2 fB4_2
  rintro w10 ⟨e10, bB2_10, bB4_10⟩
  have HX10 := Lib.hid e10; have HB2_10 := Lib.hid bB2_10; have HB4_10 := Lib.hid bB4_10
  clear e10 bB2_10 bB4_10
  have c4_0 := HB4_10.out.cell 0 rfl
  go_wp2_with fail
  refine (long_no (a.y - b.y) _ HR.out.x).mono ?_; rintro e w11 ⟨rfl, e11⟩
  have HX11 : Hid (Ext w w11) := Lib.hid (HX10.out.trans e11)
  have HB2_11 : Hid (Blk w11 (w.heap.size + 1 + 1) #[.string ⟨#[]⟩, .string ⟨#[]⟩, .string ⟨#[]⟩] 73) := Lib.hid (Blk.ext HB2_10.out e11)
  have HB4_11 : Hid (Blk w11 (i4) #[.string (qs (a.y - b.y)), .string (qs (b.x - a.x)), .string (qs ((a.y - b.y) * a.x + (b.x - a.x) * a.y))] 73) := Lib.hid (Blk.ext HB4_10.out e11)
  clear e11 c4_0
  have c4_1 := HB4_11.out.cell 1 rfl
  go_wp2_with fail
  refine (long_no (b.x - a.x) _ HR.out.y).mono ?_; rintro e w12 ⟨rfl, e12⟩
  have HX12 : Hid (Ext w w12) := Lib.hid (HX11.out.trans e12)
  have HB2_12 : Hid (Blk w12 (w.heap.size + 1 + 1) #[.string ⟨#[]⟩, .string ⟨#[]⟩, .string ⟨#[]⟩] 73) := Lib.hid (Blk.ext HB2_11.out e12)
  have HB4_12 : Hid (Blk w12 (i4) #[.string (qs (a.y - b.y)), .string (qs (b.x - a.x)), .string (qs ((a.y - b.y) * a.x + (b.x - a.x) * a.y))] 73) := Lib.hid (Blk.ext HB4_11.out e12)
  clear e12 c4_1
  have c4_2 := HB4_12.out.cell 2 rfl
  go_wp2_with fail
  refine (long_no ((a.y - b.y) * a.x + (b.x - a.x) * a.y) _ HR.out.z).mono ?_; rintro e w13 ⟨rfl, e13⟩
  have HX13 : Hid (Ext w w13) := Lib.hid (HX12.out.trans e13)
  have HB2_13 : Hid (Blk w13 (w.heap.size + 1 + 1) #[.string ⟨#[]⟩, .string ⟨#[]⟩, .string ⟨#[]⟩] 73) := Lib.hid (Blk.ext HB2_12.out e13)
  have HB4_13 : Hid (Blk w13 (i4) #[.string (qs (a.y - b.y)), .string (qs (b.x - a.x)), .string (qs ((a.y - b.y) * a.x + (b.x - a.x) * a.y))] 73) := Lib.hid (Blk.ext HB4_12.out e13)
  clear e13 c4_2
  have c4_0 := HB4_13.out.cell 0 rfl
  have c4_1 := HB4_13.out.cell 1 rfl
  have c4_2 := HB4_13.out.cell 2 rfl
  have c2_0 := HB2_13.out.cell 0 rfl
  have f2_0 := HB2_13.out.free 0
  have c2_1 := HB2_13.out.cell 1 rfl
  have f2_1 := HB2_13.out.free 1
  have c2_2 := HB2_13.out.cell 2 rfl
  have f2_2 := HB2_13.out.free 2
  go_wp2_with fail
  refine wp_name (fun W => Ext w W ∧ Blk W (w.heap.size + 1 + 1) #[.string (qs (a.y - b.y)), .string (qs (b.x - a.x)), .string (qs ((a.y - b.y) * a.x + (b.x - a.x) * a.y))] 73) ⟨(((HX13.out.setCell (by have := HGEB2.out; first | omega | (simp only []; omega) | (simp; omega)) _).setCell (by have := HGEB2.out; first | omega | (simp only []; omega) | (simp; omega)) _).setCell (by have := HGEB2.out; first | omega | (simp only []; omega) | (simp; omega)) _), (((HB2_13.out.set 0 (.string (qs (a.y - b.y)))).set 1 (.string (qs (b.x - a.x)))).set 2 (.string (qs ((a.y - b.y) * a.x + (b.x - a.x) * a.y))))⟩ ?_
  rintro w14 ⟨e14, bB2_14⟩
  have HX14 := Lib.hid e14; have HB2_14 := Lib.hid bB2_14
  clear e14 bB2_14 c4_0 c4_1 c4_2 c2_0 f2_0 c2_1 f2_1 c2_2 f2_2
  have gB2_0 := HB2_14.out.cell 0 rfl
  have gB2_1 := HB2_14.out.cell 1 rfl
  have gB2_2 := HB2_14.out.cell 2 rfl
  refine bodyPost_ret (v := .tuple #[.agg #[.string (qs (a.y - b.y)), .string (qs (b.x - a.x)), .string (qs ((a.y - b.y) * a.x + (b.x - a.x) * a.y))], .int .i64 0]) (by simp [results, Tryz.results40, go_sem, gB2_0, gB2_1, gB2_2]) rfl ⟨rfl, HX14.out⟩

theorem vThrough_ok (a b : P2) (w : World) (g : Gd w) (ha : PB 200 a) (hb : PB 200 b) (hr : VB 200 ⟨a.y - b.y, b.x - a.x, (a.y - b.y) * a.x + (b.x - a.x) * a.y⟩) (h : a ≠ b) : Calls Tryz.prog 40 #[pv a, pv b] w (Ret w (.tuple #[vv ⟨a.y - b.y, b.x - a.x, (a.y - b.y) * a.x + (b.x - a.x) * a.y⟩, .int .i64 0])) := by
  by_cases h0 : a.x = b.x
  · exact vThrough_1 a b w g ha hb hr h0 (fun e => h (by cases a; cases b; simp_all))
  · exact vThrough_0 a b w g ha hb hr h0

set_option maxRecDepth 100000 in
set_option maxHeartbeats 2000000 in
theorem vSpanned_ok (a b c : V3) (w : World) (g : Gd w) (ha : VB 40 a) (hb : VB 40 b) (hc : VB 40 c) (hr : VB 200 ⟨(b.y - a.y) * (c.z - a.z) - (b.z - a.z) * (c.y - a.y), (b.z - a.z) * (c.x - a.x) - (b.x - a.x) * (c.z - a.z), (b.x - a.x) * (c.y - a.y) - (b.y - a.y) * (c.x - a.x)⟩) (ho : QB 200 (((b.y - a.y) * (c.z - a.z) - (b.z - a.z) * (c.y - a.y)) * a.x + ((b.z - a.z) * (c.x - a.x) - (b.x - a.x) * (c.z - a.z)) * a.y + ((b.x - a.x) * (c.y - a.y) - (b.y - a.y) * (c.x - a.x)) * a.z)) (h0 : ¬ ((b.y - a.y) * (c.z - a.z) - (b.z - a.z) * (c.y - a.y) = 0 ∧ (b.z - a.z) * (c.x - a.x) - (b.x - a.x) * (c.z - a.z) = 0 ∧ (b.x - a.x) * (c.y - a.y) - (b.y - a.y) * (c.x - a.x) = 0)) : Calls Tryz.prog 50 #[.agg #[.string (qs a.x), .string (qs a.y), .string (qs a.z)], .agg #[.string (qs b.x), .string (qs b.y), .string (qs b.z)], .agg #[.string (qs c.x), .string (qs c.y), .string (qs c.z)]] w (Ret w (.tuple #[.agg #[.string (qs ((b.y - a.y) * (c.z - a.z) - (b.z - a.z) * (c.y - a.y))), .string (qs ((b.z - a.z) * (c.x - a.x) - (b.x - a.x) * (c.z - a.z))), .string (qs ((b.x - a.x) * (c.y - a.y) - (b.y - a.y) * (c.x - a.x))), .string (qs (((b.y - a.y) * (c.z - a.z) - (b.z - a.z) * (c.y - a.y)) * a.x + ((b.z - a.z) * (c.x - a.x) - (b.x - a.x) * (c.z - a.z)) * a.y + ((b.x - a.x) * (c.y - a.y) - (b.y - a.y) * (c.x - a.x)) * a.z))], .int .i64 0])) := by
  have HA := Lib.hid ha
  have HB := Lib.hid hb
  have HC := Lib.hid hc
  have HR := Lib.hid hr
  have HO := Lib.hid ho
  have H0 := Lib.hid h0
  have HG := Lib.hid g
  clear ha hb hc hr ho h0 g
  have ix0 : ∀ W, (Instr.index 135 (.agg #[.string (qs ((b.y - a.y) * (c.z - a.z) - (b.z - a.z) * (c.y - a.y))), .string (qs ((b.z - a.z) * (c.x - a.x) - (b.x - a.x) * (c.z - a.z))), .string (qs ((b.x - a.x) * (c.y - a.y) - (b.y - a.y) * (c.x - a.x))), .string (qs (((b.y - a.y) * (c.z - a.z) - (b.z - a.z) * (c.y - a.y)) * a.x + ((b.z - a.z) * (c.x - a.x) - (b.x - a.x) * (c.z - a.z)) * a.y + ((b.x - a.x) * (c.y - a.y) - (b.y - a.y) * (c.x - a.x)) * a.z))]) (.int .i64 0)).run Tryz.prog W = .ok (.string (qs ((b.y - a.y) * (c.z - a.z) - (b.z - a.z) * (c.y - a.y)))) W := fun W => by kernel_rfl
  have ix1 : ∀ W, (Instr.index 135 (.agg #[.string (qs ((b.y - a.y) * (c.z - a.z) - (b.z - a.z) * (c.y - a.y))), .string (qs ((b.z - a.z) * (c.x - a.x) - (b.x - a.x) * (c.z - a.z))), .string (qs ((b.x - a.x) * (c.y - a.y) - (b.y - a.y) * (c.x - a.x))), .string (qs (((b.y - a.y) * (c.z - a.z) - (b.z - a.z) * (c.y - a.y)) * a.x + ((b.z - a.z) * (c.x - a.x) - (b.x - a.x) * (c.z - a.z)) * a.y + ((b.x - a.x) * (c.y - a.y) - (b.y - a.y) * (c.x - a.x)) * a.z))]) (.int .i64 1)).run Tryz.prog W = .ok (.string (qs ((b.z - a.z) * (c.x - a.x) - (b.x - a.x) * (c.z - a.z)))) W := fun W => by kernel_rfl
  have ix2 : ∀ W, (Instr.index 135 (.agg #[.string (qs ((b.y - a.y) * (c.z - a.z) - (b.z - a.z) * (c.y - a.y))), .string (qs ((b.z - a.z) * (c.x - a.x) - (b.x - a.x) * (c.z - a.z))), .string (qs ((b.x - a.x) * (c.y - a.y) - (b.y - a.y) * (c.x - a.x))), .string (qs (((b.y - a.y) * (c.z - a.z) - (b.z - a.z) * (c.y - a.y)) * a.x + ((b.z - a.z) * (c.x - a.x) - (b.x - a.x) * (c.z - a.z)) * a.y + ((b.x - a.x) * (c.y - a.y) - (b.y - a.y) * (c.x - a.x)) * a.z))]) (.int .i64 2)).run Tryz.prog W = .ok (.string (qs ((b.x - a.x) * (c.y - a.y) - (b.y - a.y) * (c.x - a.x)))) W := fun W => by kernel_rfl
  have ix3 : ∀ W, (Instr.index 135 (.agg #[.string (qs ((b.y - a.y) * (c.z - a.z) - (b.z - a.z) * (c.y - a.y))), .string (qs ((b.z - a.z) * (c.x - a.x) - (b.x - a.x) * (c.z - a.z))), .string (qs ((b.x - a.x) * (c.y - a.y) - (b.y - a.y) * (c.x - a.x))), .string (qs (((b.y - a.y) * (c.z - a.z) - (b.z - a.z) * (c.y - a.y)) * a.x + ((b.z - a.z) * (c.x - a.x) - (b.x - a.x) * (c.z - a.z)) * a.y + ((b.x - a.x) * (c.y - a.y) - (b.y - a.y) * (c.x - a.x)) * a.z))]) (.int .i64 3)).run Tryz.prog W = .ok (.string (qs (((b.y - a.y) * (c.z - a.z) - (b.z - a.z) * (c.y - a.y)) * a.x + ((b.z - a.z) * (c.x - a.x) - (b.x - a.x) * (c.z - a.z)) * a.y + ((b.x - a.x) * (c.y - a.y) - (b.y - a.y) * (c.x - a.x)) * a.z))) W := fun W => by kernel_rfl
  go_enter Tryz.func50, Tryz.ntmps50
  go_wp2_with fail
  refine (vectors3_ok a b c (w.heap.size + 1 + 1 + 1 + 1) _ (HG.out.ext ((((((Ext.refl w).alloc _).alloc _).alloc _).alloc _).alloc _)) (HA.out.mono (by omega)) (HB.out.mono (by omega)) (HC.out.mono (by omega)) (Blk.new' (w := _) (cs := #[.string (qs a.x), .string (qs a.y), .string (qs a.z), .string (qs b.x), .string (qs b.y), .string (qs b.z), .string (qs c.x), .string (qs c.y), .string (qs c.z)]) (t := 30) (by first | rfl | (simp only [World.size_alloc]; done) | (simp only [World.size_alloc]; omega) | simp))).mono ?_; rintro e w1 ⟨rfl, e1⟩
  have HX1 : Hid (Ext w w1) := Lib.hid (((((((Ext.refl w).alloc _).alloc _).alloc _).alloc _).alloc _).trans e1)
  have HB0_1 : Hid (Blk w1 (w.heap.size) #[.string (qs a.x), .string (qs a.y), .string (qs a.z)] 30) := Lib.hid (Blk.ext (((((Blk.new' (w := _) (cs := #[.string (qs a.x), .string (qs a.y), .string (qs a.z)]) (t := 30) (by first | rfl | (simp only [World.size_alloc]; done) | (simp only [World.size_alloc]; omega) | simp)).alloc _).alloc _).alloc _).alloc _) e1)
  have HB1_1 : Hid (Blk w1 (w.heap.size + 1) #[.string (qs b.x), .string (qs b.y), .string (qs b.z)] 30) := Lib.hid (Blk.ext ((((Blk.new' (w := _) (cs := #[.string (qs b.x), .string (qs b.y), .string (qs b.z)]) (t := 30) (by first | rfl | (simp only [World.size_alloc]; done) | (simp only [World.size_alloc]; omega) | simp)).alloc _).alloc _).alloc _) e1)
  have HB2_1 : Hid (Blk w1 (w.heap.size + 1 + 1) #[.string (qs c.x), .string (qs c.y), .string (qs c.z)] 30) := Lib.hid (Blk.ext (((Blk.new' (w := _) (cs := #[.string (qs c.x), .string (qs c.y), .string (qs c.z)]) (t := 30) (by first | rfl | (simp only [World.size_alloc]; done) | (simp only [World.size_alloc]; omega) | simp)).alloc _).alloc _) e1)
  have HB3_1 : Hid (Blk w1 (w.heap.size + 1 + 1 + 1) #[.string ⟨#[]⟩, .string ⟨#[]⟩, .string ⟨#[]⟩, .string ⟨#[]⟩] 48) := Lib.hid (Blk.ext ((Blk.new' (w := _) (cs := #[.string ⟨#[]⟩, .string ⟨#[]⟩, .string ⟨#[]⟩, .string ⟨#[]⟩]) (t := 48) (by first | rfl | (simp only [World.size_alloc]; done) | (simp only [World.size_alloc]; omega) | simp)).alloc _) e1)
  have HB4_1 : Hid (Blk w1 (w.heap.size + 1 + 1 + 1 + 1) #[.string (qs a.x), .string (qs a.y), .string (qs a.z), .string (qs b.x), .string (qs b.y), .string (qs b.z), .string (qs c.x), .string (qs c.y), .string (qs c.z)] 30) := Lib.hid (Blk.ext (Blk.new' (w := _) (cs := #[.string (qs a.x), .string (qs a.y), .string (qs a.z), .string (qs b.x), .string (qs b.y), .string (qs b.z), .string (qs c.x), .string (qs c.y), .string (qs c.z)]) (t := 30) (by first | rfl | (simp only [World.size_alloc]; done) | (simp only [World.size_alloc]; omega) | simp)) e1)
  have HGEB0 : Hid (w.heap.size ≤ w.heap.size) := Lib.hid (by first | omega | (simp only []; omega) | (simp; omega))
  have HGEB1 : Hid (w.heap.size ≤ w.heap.size + 1) := Lib.hid (by first | omega | (simp only []; omega) | (simp; omega))
  have HGEB2 : Hid (w.heap.size ≤ w.heap.size + 1 + 1) := Lib.hid (by first | omega | (simp only []; omega) | (simp; omega))
  have HGEB3 : Hid (w.heap.size ≤ w.heap.size + 1 + 1 + 1) := Lib.hid (by first | omega | (simp only []; omega) | (simp; omega))
  have HGEB4 : Hid (w.heap.size ≤ w.heap.size + 1 + 1 + 1 + 1) := Lib.hid (by first | omega | (simp only []; omega) | (simp; omega))
  clear e1
  go_wp2_with fail
  have hS1 : w1.cell? ⟨w.heap.size + 1, 0, none⟩ = some (.string (qs b.x)) ∧ w1.cell? ⟨w.heap.size + 1, 1, none⟩ = some (.string (qs b.y)) ∧ w1.cell? ⟨w.heap.size + 1, 2, none⟩ = some (.string (qs b.z)) ∧ w1.cell? ⟨w.heap.size, 0, none⟩ = some (.string (qs a.x)) ∧ w1.cell? ⟨w.heap.size, 1, none⟩ = some (.string (qs a.y)) ∧ w1.cell? ⟨w.heap.size, 2, none⟩ = some (.string (qs a.z)) ∧ w1.cell? ⟨w.heap.size + 1 + 1, 0, none⟩ = some (.string (qs c.x)) ∧ w1.cell? ⟨w.heap.size + 1 + 1, 1, none⟩ = some (.string (qs c.y)) ∧ w1.cell? ⟨w.heap.size + 1 + 1, 2, none⟩ = some (.string (qs c.z)) := ⟨HB1_1.out.cell 0 rfl, HB1_1.out.cell 1 rfl, HB1_1.out.cell 2 rfl, HB0_1.out.cell 0 rfl, HB0_1.out.cell 1 rfl, HB0_1.out.cell 2 rfl, HB2_1.out.cell 0 rfl, HB2_1.out.cell 1 rfl, HB2_1.out.cell 2 rfl⟩
  have HS1 := Lib.hid hS1; clear hS1
  go_cut [9] from 22 to 30 (fun p9 wx => ∃ i5 : Nat, p9 = .pointer (some ⟨i5, 0, none⟩) ∧ w1.heap.size ≤ i5 ∧ Ext w1 wx ∧ Blk wx i5 #[.string (qs ((b.y - a.y) * (c.z - a.z) - (b.z - a.z) * (c.y - a.y))), .string (qs ((b.z - a.z) * (c.x - a.x) - (b.x - a.x) * (c.z - a.z))), .string (qs ((b.x - a.x) * (c.y - a.y) - (b.y - a.y) * (c.x - a.x)))] 30)
  case first =>
    go_region_held3 (fun w' => w'.cell? ⟨w.heap.size + 1, 0, none⟩ = some (.string (qs b.x)) ∧ w'.cell? ⟨w.heap.size + 1, 1, none⟩ = some (.string (qs b.y)) ∧ w'.cell? ⟨w.heap.size + 1, 2, none⟩ = some (.string (qs b.z)) ∧ w'.cell? ⟨w.heap.size, 0, none⟩ = some (.string (qs a.x)) ∧ w'.cell? ⟨w.heap.size, 1, none⟩ = some (.string (qs a.y)) ∧ w'.cell? ⟨w.heap.size, 2, none⟩ = some (.string (qs a.z)) ∧ w'.cell? ⟨w.heap.size + 1 + 1, 0, none⟩ = some (.string (qs c.x)) ∧ w'.cell? ⟨w.heap.size + 1 + 1, 1, none⟩ = some (.string (qs c.y)) ∧ w'.cell? ⟨w.heap.size + 1 + 1, 2, none⟩ = some (.string (qs c.z)))
      ((exact keepsH9 (by repeat (first | assumption | exact Ext.refl _ | apply Ext.drew | apply Ext.alloc | (refine Ext.setCell ?_ (by first | omega | (simp only []; omega) | (simp; omega)) _) | (refine Ext.trans ?_ (by assumption)))) HS1.out)) (first
      | (go_at_call 88; ((with_reducible refine (each_sub b a _ (HG.out.ext (HX1.out.trans (by repeat (first | assumption | exact Ext.refl _ | apply Ext.drew | apply Ext.alloc | (refine Ext.setCell ?_ (by first | omega | (simp only []; omega) | (simp; omega)) _) | (refine Ext.trans ?_ (by assumption)))))) HB.out HA.out (by omega) (by omega)).mono ?_); rintro e w2 ⟨rfl, e2⟩; have z2 := e2.size; (try simp at z2); (first | (have N2 : Blk w2 w1.heap.size #[.string ⟨#[]⟩, .string ⟨#[]⟩, .string ⟨#[]⟩] 30 := Blk.ext (Blk.new' (by rfl)) e2) | (have N2 : Blk w2 w1.heap.size #[.string ⟨#[]⟩, .string ⟨#[]⟩, .string ⟨#[]⟩] 30 := Blk.ext (Blk.drew (Blk.new' (by rfl))) e2) | skip)))
      | (go_at_call 77; ((with_reducible refine (vector_c ⟨qs (b.x - a.x), qs (b.y - a.y), qs (b.z - a.z)⟩ _).mono ?_); rintro e w3 ⟨rfl, e3⟩; have z3 := e3.size; (try simp at z3); (first | (have N3 : Blk w3 w2.heap.size #[.string ⟨#[]⟩, .string ⟨#[]⟩, .string ⟨#[]⟩] 30 := Blk.ext (Blk.new' (by rfl)) e3) | (have N3 : Blk w3 w2.heap.size #[.string ⟨#[]⟩, .string ⟨#[]⟩, .string ⟨#[]⟩] 30 := Blk.ext (Blk.drew (Blk.new' (by rfl))) e3) | (have N3 := Blk.ext N2 e3) | skip)))
      | (go_at_call 88; ((with_reducible refine (each_sub c a _ (HG.out.ext (HX1.out.trans (by repeat (first | assumption | exact Ext.refl _ | apply Ext.drew | apply Ext.alloc | (refine Ext.setCell ?_ (by first | omega | (simp only []; omega) | (simp; omega)) _) | (refine Ext.trans ?_ (by assumption)))))) HC.out HA.out (by omega) (by omega)).mono ?_); rintro e w4 ⟨rfl, e4⟩; have z4 := e4.size; (try simp at z4); (first | (have N4 : Blk w4 w3.heap.size #[.string ⟨#[]⟩, .string ⟨#[]⟩, .string ⟨#[]⟩] 30 := Blk.ext (Blk.new' (by rfl)) e4) | (have N4 : Blk w4 w3.heap.size #[.string ⟨#[]⟩, .string ⟨#[]⟩, .string ⟨#[]⟩] 30 := Blk.ext (Blk.drew (Blk.new' (by rfl))) e4) | (have N4 := Blk.ext N3 e4) | skip)))
      | (go_at_call 77; ((with_reducible refine (vector_c ⟨qs (c.x - a.x), qs (c.y - a.y), qs (c.z - a.z)⟩ _).mono ?_); rintro e w5 ⟨rfl, e5⟩; have z5 := e5.size; (try simp at z5); (first | (have N5 : Blk w5 w4.heap.size #[.string ⟨#[]⟩, .string ⟨#[]⟩, .string ⟨#[]⟩] 30 := Blk.ext (Blk.new' (by rfl)) e5) | (have N5 : Blk w5 w4.heap.size #[.string ⟨#[]⟩, .string ⟨#[]⟩, .string ⟨#[]⟩] 30 := Blk.ext (Blk.drew (Blk.new' (by rfl))) e5) | (have N5 := Blk.ext N4 e5) | skip)))
      | (go_at_call 83; ((with_reducible refine (vcross0_c ⟨b.x - a.x, b.y - a.y, b.z - a.z⟩ ⟨c.x - a.x, c.y - a.y, c.z - a.z⟩ _ (HG.out.ext (HX1.out.trans (by repeat (first | assumption | exact Ext.refl _ | apply Ext.drew | apply Ext.alloc | (refine Ext.setCell ?_ (by first | omega | (simp only []; omega) | (simp; omega)) _) | (refine Ext.trans ?_ (by assumption)))))) ⟨(HB.out.x.sub HA.out.x), (HB.out.y.sub HA.out.y), (HB.out.z.sub HA.out.z)⟩ ⟨(HC.out.x.sub HA.out.x), (HC.out.y.sub HA.out.y), (HC.out.z.sub HA.out.z)⟩ (by omega) (by omega)).mono ?_); rintro e w6 ⟨rfl, e6⟩; have z6 := e6.size; (try simp at z6); (first | (have N6 : Blk w6 w5.heap.size #[.string ⟨#[]⟩, .string ⟨#[]⟩, .string ⟨#[]⟩] 30 := Blk.ext (Blk.new' (by rfl)) e6) | (have N6 : Blk w6 w5.heap.size #[.string ⟨#[]⟩, .string ⟨#[]⟩, .string ⟨#[]⟩] 30 := Blk.ext (Blk.drew (Blk.new' (by rfl))) e6) | (have N6 := Blk.ext N5 e6) | skip); (first | (have q0 := N6.cell 0 rfl; have f0 := N6.free 0; have q1 := N6.cell 1 rfl; have f1 := N6.free 1; have q2 := N6.cell 2 rfl; have f2 := N6.free 2) | skip))))
    all_goals (go_wp2_with fail; go_meet)
    all_goals (refine ⟨_, rfl, by first | omega | (simp; omega), (by repeat (first | assumption | exact Ext.refl _ | apply Ext.drew | apply Ext.alloc | (refine Ext.setCell ?_ (by first | omega | (simp only []; omega) | (simp; omega)) _) | (refine Ext.trans ?_ (by assumption)))), ?_⟩)
    all_goals (repeat (first | assumption | (refine Blk.new' ?_; first | rfl | (simp only [World.size_alloc]; done) | (simp only [World.size_alloc]; omega)) | apply Blk.alloc | apply Blk.drew | (exact Blk.fill3 (by assumption)) | (refine Blk.ext ?_ (by assumption))))
  obtain ⟨i5, rfl, hgeB5, e7, bB5⟩ := hcut
  rename World => w7
  have HX7 : Hid (Ext w w7) := Lib.hid (HX1.out.trans e7)
  have HB0_7 := Lib.hid (HB0_1.out.ext e7)
  have HB3_7 := Lib.hid (HB3_1.out.ext e7)
  have HB5_7 := Lib.hid bB5; have HGEB5 : Hid (w.heap.size ≤ i5) := Lib.hid (Nat.le_trans HX1.out.size hgeB5)
  have HNEB0B5 : Hid (w.heap.size ≠ i5) := Lib.hid (by have := HB0_1.out.lt; omega)
  have HNEB3B5 : Hid (w.heap.size + 1 + 1 + 1 ≠ i5) := Lib.hid (by have := HB3_1.out.lt; omega)
  clear hgeB5 e7 bB5
  have c5_0 := HB5_7.out.cell 0 rfl
  have c5_1 := HB5_7.out.cell 1 rfl
  have c5_2 := HB5_7.out.cell 2 rfl
  go_wp2_with fail
  refine (vzero_f ⟨(b.y - a.y) * (c.z - a.z) - (b.z - a.z) * (c.y - a.y), (b.z - a.z) * (c.x - a.x) - (b.x - a.x) * (c.z - a.z), (b.x - a.x) * (c.y - a.y) - (b.y - a.y) * (c.x - a.x)⟩ _ H0.out).mono ?_; rintro e w8 ⟨rfl, e8⟩
  have HX8 : Hid (Ext w w8) := Lib.hid (HX7.out.trans e8)
  have HB0_8 : Hid (Blk w8 (w.heap.size) #[.string (qs a.x), .string (qs a.y), .string (qs a.z)] 30) := Lib.hid (Blk.ext HB0_7.out e8)
  have HB3_8 : Hid (Blk w8 (w.heap.size + 1 + 1 + 1) #[.string ⟨#[]⟩, .string ⟨#[]⟩, .string ⟨#[]⟩, .string ⟨#[]⟩] 48) := Lib.hid (Blk.ext HB3_7.out e8)
  have HB5_8 : Hid (Blk w8 (i5) #[.string (qs ((b.y - a.y) * (c.z - a.z) - (b.z - a.z) * (c.y - a.y))), .string (qs ((b.z - a.z) * (c.x - a.x) - (b.x - a.x) * (c.z - a.z))), .string (qs ((b.x - a.x) * (c.y - a.y) - (b.y - a.y) * (c.x - a.x)))] 30) := Lib.hid (Blk.ext HB5_7.out e8)
  clear e8 c5_0 c5_1 c5_2
  go_wp2_with fail
  have hS8 : w8.cell? ⟨i5, 0, none⟩ = some (.string (qs ((b.y - a.y) * (c.z - a.z) - (b.z - a.z) * (c.y - a.y)))) ∧ w8.cell? ⟨i5, 1, none⟩ = some (.string (qs ((b.z - a.z) * (c.x - a.x) - (b.x - a.x) * (c.z - a.z)))) ∧ w8.cell? ⟨i5, 2, none⟩ = some (.string (qs ((b.x - a.x) * (c.y - a.y) - (b.y - a.y) * (c.x - a.x)))) ∧ w8.cell? ⟨w.heap.size, 0, none⟩ = some (.string (qs a.x)) ∧ w8.cell? ⟨w.heap.size, 1, none⟩ = some (.string (qs a.y)) ∧ w8.cell? ⟨w.heap.size, 2, none⟩ = some (.string (qs a.z)) := ⟨HB5_8.out.cell 0 rfl, HB5_8.out.cell 1 rfl, HB5_8.out.cell 2 rfl, HB0_8.out.cell 0 rfl, HB0_8.out.cell 1 rfl, HB0_8.out.cell 2 rfl⟩
  have HS8 := Lib.hid hS8; clear hS8
  go_cut [10] from 34 to 38 (fun p10 wx => ∃ i6 : Nat, p10 = .pointer (some ⟨i6, 0, none⟩) ∧ w8.heap.size ≤ i6 ∧ Ext w8 wx ∧ Blk wx i6 #[.string (qs ((b.y - a.y) * (c.z - a.z) - (b.z - a.z) * (c.y - a.y))), .string (qs ((b.z - a.z) * (c.x - a.x) - (b.x - a.x) * (c.z - a.z))), .string (qs ((b.x - a.x) * (c.y - a.y) - (b.y - a.y) * (c.x - a.x))), .string (qs (((b.y - a.y) * (c.z - a.z) - (b.z - a.z) * (c.y - a.y)) * a.x + ((b.z - a.z) * (c.x - a.x) - (b.x - a.x) * (c.z - a.z)) * a.y + ((b.x - a.x) * (c.y - a.y) - (b.y - a.y) * (c.x - a.x)) * a.z))] 48)
  case first =>
    go_region_held3 (fun w' => w'.cell? ⟨i5, 0, none⟩ = some (.string (qs ((b.y - a.y) * (c.z - a.z) - (b.z - a.z) * (c.y - a.y)))) ∧ w'.cell? ⟨i5, 1, none⟩ = some (.string (qs ((b.z - a.z) * (c.x - a.x) - (b.x - a.x) * (c.z - a.z)))) ∧ w'.cell? ⟨i5, 2, none⟩ = some (.string (qs ((b.x - a.x) * (c.y - a.y) - (b.y - a.y) * (c.x - a.x)))) ∧ w'.cell? ⟨w.heap.size, 0, none⟩ = some (.string (qs a.x)) ∧ w'.cell? ⟨w.heap.size, 1, none⟩ = some (.string (qs a.y)) ∧ w'.cell? ⟨w.heap.size, 2, none⟩ = some (.string (qs a.z)))
      ((exact keepsH6 (by repeat (first | assumption | exact Ext.refl _ | apply Ext.drew | apply Ext.alloc | (refine Ext.setCell ?_ (by first | omega | (simp only []; omega) | (simp; omega)) _) | (refine Ext.trans ?_ (by assumption)))) HS8.out)) (first
      | (go_at_call 87; ((with_reducible refine (vdot0_c ⟨(b.y - a.y) * (c.z - a.z) - (b.z - a.z) * (c.y - a.y), (b.z - a.z) * (c.x - a.x) - (b.x - a.x) * (c.z - a.z), (b.x - a.x) * (c.y - a.y) - (b.y - a.y) * (c.x - a.x)⟩ a _ (HG.out.ext (HX8.out.trans (by repeat (first | assumption | exact Ext.refl _ | apply Ext.drew | apply Ext.alloc | (refine Ext.setCell ?_ (by first | omega | (simp only []; omega) | (simp; omega)) _) | (refine Ext.trans ?_ (by assumption)))))) ⟨(((HB.out.y.sub HA.out.y).mul (HC.out.z.sub HA.out.z)).sub ((HB.out.z.sub HA.out.z).mul (HC.out.y.sub HA.out.y))), (((HB.out.z.sub HA.out.z).mul (HC.out.x.sub HA.out.x)).sub ((HB.out.x.sub HA.out.x).mul (HC.out.z.sub HA.out.z))), (((HB.out.x.sub HA.out.x).mul (HC.out.y.sub HA.out.y)).sub ((HB.out.y.sub HA.out.y).mul (HC.out.x.sub HA.out.x)))⟩ HA.out (by omega) (by omega)).mono ?_); rintro e w9 ⟨rfl, e9⟩; have z9 := e9.size; (try simp at z9); (first | (have N9 : Blk w9 w8.heap.size #[.string ⟨#[]⟩, .string ⟨#[]⟩, .string ⟨#[]⟩, .string ⟨#[]⟩] 48 := Blk.ext (Blk.new' (by rfl)) e9) | (have N9 : Blk w9 w8.heap.size #[.string ⟨#[]⟩, .string ⟨#[]⟩, .string ⟨#[]⟩, .string ⟨#[]⟩] 48 := Blk.ext (Blk.drew (Blk.new' (by rfl))) e9) | skip); (first | (have q0 := N9.cell 0 rfl; have f0 := N9.free 0; have q1 := N9.cell 1 rfl; have f1 := N9.free 1; have q2 := N9.cell 2 rfl; have f2 := N9.free 2; have q3 := N9.cell 3 rfl; have f3 := N9.free 3) | skip))))
    all_goals (go_wp2_with fail; go_meet)
    all_goals (refine ⟨_, rfl, by first | omega | (simp; omega), (by repeat (first | assumption | exact Ext.refl _ | apply Ext.drew | apply Ext.alloc | (refine Ext.setCell ?_ (by first | omega | (simp only []; omega) | (simp; omega)) _) | (refine Ext.trans ?_ (by assumption)))), ?_⟩)
    all_goals (repeat (first | assumption | (refine Blk.new' ?_; first | rfl | (simp only [World.size_alloc]; done) | (simp only [World.size_alloc]; omega)) | apply Blk.alloc | apply Blk.drew | (exact Blk.fill4 (by assumption)) | (refine Blk.ext ?_ (by assumption))))
  obtain ⟨i6, rfl, hgeB6, e10, bB6⟩ := hcut
  rename World => w10
  have HX10 : Hid (Ext w w10) := Lib.hid (HX8.out.trans e10)
  have HB3_10 := Lib.hid (HB3_8.out.ext e10)
  have HB5_10 := Lib.hid (HB5_8.out.ext e10)
  have HB6_10 := Lib.hid bB6; have HGEB6 : Hid (w.heap.size ≤ i6) := Lib.hid (Nat.le_trans HX8.out.size hgeB6)
  have HNEB3B6 : Hid (w.heap.size + 1 + 1 + 1 ≠ i6) := Lib.hid (by have := HB3_8.out.lt; omega)
  have HNEB5B6 : Hid (i5 ≠ i6) := Lib.hid (by have := HB5_8.out.lt; omega)
  clear hgeB6 e10 bB6
  have c5_0 := HB5_10.out.cell 0 rfl
  have c5_1 := HB5_10.out.cell 1 rfl
  have c5_2 := HB5_10.out.cell 2 rfl
  have c6_3 := HB6_10.out.cell 3 rfl
  go_wp2_with fail
  refine wp_loop_rounds 5 ?_
  rw [rounds_succ]
  clear c5_0 c5_1 c5_2 c6_3
  go_wp2_with fail
  refine (long_no ((b.y - a.y) * (c.z - a.z) - (b.z - a.z) * (c.y - a.y)) _ HR.out.x).mono ?_; rintro e w11 ⟨rfl, e11⟩
  have HX11 : Hid (Ext w w11) := Lib.hid (HX10.out.trans e11)
  have HB3_11 : Hid (Blk w11 (w.heap.size + 1 + 1 + 1) #[.string ⟨#[]⟩, .string ⟨#[]⟩, .string ⟨#[]⟩, .string ⟨#[]⟩] 48) := Lib.hid (Blk.ext HB3_10.out e11)
  have HB6_11 : Hid (Blk w11 (i6) #[.string (qs ((b.y - a.y) * (c.z - a.z) - (b.z - a.z) * (c.y - a.y))), .string (qs ((b.z - a.z) * (c.x - a.x) - (b.x - a.x) * (c.z - a.z))), .string (qs ((b.x - a.x) * (c.y - a.y) - (b.y - a.y) * (c.x - a.x))), .string (qs (((b.y - a.y) * (c.z - a.z) - (b.z - a.z) * (c.y - a.y)) * a.x + ((b.z - a.z) * (c.x - a.x) - (b.x - a.x) * (c.z - a.z)) * a.y + ((b.x - a.x) * (c.y - a.y) - (b.y - a.y) * (c.x - a.x)) * a.z))] 48) := Lib.hid (Blk.ext HB6_10.out e11)
  clear e11
  go_wp2_with fail
  rw [rounds_succ]
  go_wp2_with fail
  refine (long_no ((b.z - a.z) * (c.x - a.x) - (b.x - a.x) * (c.z - a.z)) _ HR.out.y).mono ?_; rintro e w12 ⟨rfl, e12⟩
  have HX12 : Hid (Ext w w12) := Lib.hid (HX11.out.trans e12)
  have HB3_12 : Hid (Blk w12 (w.heap.size + 1 + 1 + 1) #[.string ⟨#[]⟩, .string ⟨#[]⟩, .string ⟨#[]⟩, .string ⟨#[]⟩] 48) := Lib.hid (Blk.ext HB3_11.out e12)
  have HB6_12 : Hid (Blk w12 (i6) #[.string (qs ((b.y - a.y) * (c.z - a.z) - (b.z - a.z) * (c.y - a.y))), .string (qs ((b.z - a.z) * (c.x - a.x) - (b.x - a.x) * (c.z - a.z))), .string (qs ((b.x - a.x) * (c.y - a.y) - (b.y - a.y) * (c.x - a.x))), .string (qs (((b.y - a.y) * (c.z - a.z) - (b.z - a.z) * (c.y - a.y)) * a.x + ((b.z - a.z) * (c.x - a.x) - (b.x - a.x) * (c.z - a.z)) * a.y + ((b.x - a.x) * (c.y - a.y) - (b.y - a.y) * (c.x - a.x)) * a.z))] 48) := Lib.hid (Blk.ext HB6_11.out e12)
  clear e12
  go_wp2_with fail
  rw [rounds_succ]
  go_wp2_with fail
  refine (long_no ((b.x - a.x) * (c.y - a.y) - (b.y - a.y) * (c.x - a.x)) _ HR.out.z).mono ?_; rintro e w13 ⟨rfl, e13⟩
  have HX13 : Hid (Ext w w13) := Lib.hid (HX12.out.trans e13)
  have HB3_13 : Hid (Blk w13 (w.heap.size + 1 + 1 + 1) #[.string ⟨#[]⟩, .string ⟨#[]⟩, .string ⟨#[]⟩, .string ⟨#[]⟩] 48) := Lib.hid (Blk.ext HB3_12.out e13)
  have HB6_13 : Hid (Blk w13 (i6) #[.string (qs ((b.y - a.y) * (c.z - a.z) - (b.z - a.z) * (c.y - a.y))), .string (qs ((b.z - a.z) * (c.x - a.x) - (b.x - a.x) * (c.z - a.z))), .string (qs ((b.x - a.x) * (c.y - a.y) - (b.y - a.y) * (c.x - a.x))), .string (qs (((b.y - a.y) * (c.z - a.z) - (b.z - a.z) * (c.y - a.y)) * a.x + ((b.z - a.z) * (c.x - a.x) - (b.x - a.x) * (c.z - a.z)) * a.y + ((b.x - a.x) * (c.y - a.y) - (b.y - a.y) * (c.x - a.x)) * a.z))] 48) := Lib.hid (Blk.ext HB6_12.out e13)
  clear e13
  go_wp2_with fail
  rw [rounds_succ]
  go_wp2_with fail
  refine (long_no (((b.y - a.y) * (c.z - a.z) - (b.z - a.z) * (c.y - a.y)) * a.x + ((b.z - a.z) * (c.x - a.x) - (b.x - a.x) * (c.z - a.z)) * a.y + ((b.x - a.x) * (c.y - a.y) - (b.y - a.y) * (c.x - a.x)) * a.z) _ HO.out).mono ?_; rintro e w14 ⟨rfl, e14⟩
  have HX14 : Hid (Ext w w14) := Lib.hid (HX13.out.trans e14)
  have HB3_14 : Hid (Blk w14 (w.heap.size + 1 + 1 + 1) #[.string ⟨#[]⟩, .string ⟨#[]⟩, .string ⟨#[]⟩, .string ⟨#[]⟩] 48) := Lib.hid (Blk.ext HB3_13.out e14)
  have HB6_14 : Hid (Blk w14 (i6) #[.string (qs ((b.y - a.y) * (c.z - a.z) - (b.z - a.z) * (c.y - a.y))), .string (qs ((b.z - a.z) * (c.x - a.x) - (b.x - a.x) * (c.z - a.z))), .string (qs ((b.x - a.x) * (c.y - a.y) - (b.y - a.y) * (c.x - a.x))), .string (qs (((b.y - a.y) * (c.z - a.z) - (b.z - a.z) * (c.y - a.y)) * a.x + ((b.z - a.z) * (c.x - a.x) - (b.x - a.x) * (c.z - a.z)) * a.y + ((b.x - a.x) * (c.y - a.y) - (b.y - a.y) * (c.x - a.x)) * a.z))] 48) := Lib.hid (Blk.ext HB6_13.out e14)
  clear e14
  go_wp2_with fail
  rw [rounds_succ]
  have c6_0 := HB6_14.out.cell 0 rfl
  have c6_1 := HB6_14.out.cell 1 rfl
  have c6_2 := HB6_14.out.cell 2 rfl
  have c6_3 := HB6_14.out.cell 3 rfl
  have c3_0 := HB3_14.out.cell 0 rfl
  have f3_0 := HB3_14.out.free 0
  have c3_1 := HB3_14.out.cell 1 rfl
  have f3_1 := HB3_14.out.free 1
  have c3_2 := HB3_14.out.cell 2 rfl
  have f3_2 := HB3_14.out.free 2
  have c3_3 := HB3_14.out.cell 3 rfl
  have f3_3 := HB3_14.out.free 3
  go_wp2_with fail
  refine wp_name (fun W => Ext w W ∧ Blk W (w.heap.size + 1 + 1 + 1) #[.string (qs ((b.y - a.y) * (c.z - a.z) - (b.z - a.z) * (c.y - a.y))), .string (qs ((b.z - a.z) * (c.x - a.x) - (b.x - a.x) * (c.z - a.z))), .string (qs ((b.x - a.x) * (c.y - a.y) - (b.y - a.y) * (c.x - a.x))), .string (qs (((b.y - a.y) * (c.z - a.z) - (b.z - a.z) * (c.y - a.y)) * a.x + ((b.z - a.z) * (c.x - a.x) - (b.x - a.x) * (c.z - a.z)) * a.y + ((b.x - a.x) * (c.y - a.y) - (b.y - a.y) * (c.x - a.x)) * a.z))] 48) ⟨((((HX14.out.setCell (by have := HGEB3.out; first | omega | (simp only []; omega) | (simp; omega)) _).setCell (by have := HGEB3.out; first | omega | (simp only []; omega) | (simp; omega)) _).setCell (by have := HGEB3.out; first | omega | (simp only []; omega) | (simp; omega)) _).setCell (by have := HGEB3.out; first | omega | (simp only []; omega) | (simp; omega)) _), ((((HB3_14.out.set 0 (.string (qs ((b.y - a.y) * (c.z - a.z) - (b.z - a.z) * (c.y - a.y))))).set 1 (.string (qs ((b.z - a.z) * (c.x - a.x) - (b.x - a.x) * (c.z - a.z))))).set 2 (.string (qs ((b.x - a.x) * (c.y - a.y) - (b.y - a.y) * (c.x - a.x))))).set 3 (.string (qs (((b.y - a.y) * (c.z - a.z) - (b.z - a.z) * (c.y - a.y)) * a.x + ((b.z - a.z) * (c.x - a.x) - (b.x - a.x) * (c.z - a.z)) * a.y + ((b.x - a.x) * (c.y - a.y) - (b.y - a.y) * (c.x - a.x)) * a.z))))⟩ ?_
  rintro w15 ⟨e15, bB3_15⟩
  have HX15 := Lib.hid e15; have HB3_15 := Lib.hid bB3_15
  clear e15 bB3_15 c6_0 c6_1 c6_2 c6_3 c3_0 f3_0 c3_1 f3_1 c3_2 f3_2 c3_3 f3_3
  have gB3_0 := HB3_15.out.cell 0 rfl
  have gB3_1 := HB3_15.out.cell 1 rfl
  have gB3_2 := HB3_15.out.cell 2 rfl
  have gB3_3 := HB3_15.out.cell 3 rfl
  refine bodyPost_ret (v := .tuple #[.agg #[.string (qs ((b.y - a.y) * (c.z - a.z) - (b.z - a.z) * (c.y - a.y))), .string (qs ((b.z - a.z) * (c.x - a.x) - (b.x - a.x) * (c.z - a.z))), .string (qs ((b.x - a.x) * (c.y - a.y) - (b.y - a.y) * (c.x - a.x))), .string (qs (((b.y - a.y) * (c.z - a.z) - (b.z - a.z) * (c.y - a.y)) * a.x + ((b.z - a.z) * (c.x - a.x) - (b.x - a.x) * (c.z - a.z)) * a.y + ((b.x - a.x) * (c.y - a.y) - (b.y - a.y) * (c.x - a.x)) * a.z))], .int .i64 0]) (by simp [results, Tryz.results50, go_sem, gB3_0, gB3_1, gB3_2, gB3_3]) rfl ⟨rfl, HX15.out⟩

set_option maxRecDepth 100000 in
set_option maxHeartbeats 2000000 in
theorem vSpanned_flat (a b c : V3) (w : World) (g : Gd w) (ha : VB 40 a) (hb : VB 40 b) (hc : VB 40 c) (h0 : (b.y - a.y) * (c.z - a.z) - (b.z - a.z) * (c.y - a.y) = 0 ∧ (b.z - a.z) * (c.x - a.x) - (b.x - a.x) * (c.z - a.z) = 0 ∧ (b.x - a.x) * (c.y - a.y) - (b.y - a.y) * (c.x - a.x) = 0) : Calls Tryz.prog 50 #[.agg #[.string (qs a.x), .string (qs a.y), .string (qs a.z)], .agg #[.string (qs b.x), .string (qs b.y), .string (qs b.z)], .agg #[.string (qs c.x), .string (qs c.y), .string (qs c.z)]] w (Ret w (.tuple #[.agg #[.string ⟨#[]⟩, .string ⟨#[]⟩, .string ⟨#[]⟩, .string ⟨#[]⟩], .int .i64 18])) := by
  have HA := Lib.hid ha
  have HB := Lib.hid hb
  have HC := Lib.hid hc
  have H0 := Lib.hid h0
  have HG := Lib.hid g
  clear ha hb hc h0 g
  go_enter Tryz.func50, Tryz.ntmps50
  go_wp2_with fail
  refine (vectors3_ok a b c (w.heap.size + 1 + 1 + 1 + 1) _ (HG.out.ext ((((((Ext.refl w).alloc _).alloc _).alloc _).alloc _).alloc _)) (HA.out.mono (by omega)) (HB.out.mono (by omega)) (HC.out.mono (by omega)) (Blk.new' (w := _) (cs := #[.string (qs a.x), .string (qs a.y), .string (qs a.z), .string (qs b.x), .string (qs b.y), .string (qs b.z), .string (qs c.x), .string (qs c.y), .string (qs c.z)]) (t := 30) (by first | rfl | (simp only [World.size_alloc]; done) | (simp only [World.size_alloc]; omega) | simp))).mono ?_; rintro e w1 ⟨rfl, e1⟩
  have HX1 : Hid (Ext w w1) := Lib.hid (((((((Ext.refl w).alloc _).alloc _).alloc _).alloc _).alloc _).trans e1)
  have HB0_1 : Hid (Blk w1 (w.heap.size) #[.string (qs a.x), .string (qs a.y), .string (qs a.z)] 30) := Lib.hid (Blk.ext (((((Blk.new' (w := _) (cs := #[.string (qs a.x), .string (qs a.y), .string (qs a.z)]) (t := 30) (by first | rfl | (simp only [World.size_alloc]; done) | (simp only [World.size_alloc]; omega) | simp)).alloc _).alloc _).alloc _).alloc _) e1)
  have HB1_1 : Hid (Blk w1 (w.heap.size + 1) #[.string (qs b.x), .string (qs b.y), .string (qs b.z)] 30) := Lib.hid (Blk.ext ((((Blk.new' (w := _) (cs := #[.string (qs b.x), .string (qs b.y), .string (qs b.z)]) (t := 30) (by first | rfl | (simp only [World.size_alloc]; done) | (simp only [World.size_alloc]; omega) | simp)).alloc _).alloc _).alloc _) e1)
  have HB2_1 : Hid (Blk w1 (w.heap.size + 1 + 1) #[.string (qs c.x), .string (qs c.y), .string (qs c.z)] 30) := Lib.hid (Blk.ext (((Blk.new' (w := _) (cs := #[.string (qs c.x), .string (qs c.y), .string (qs c.z)]) (t := 30) (by first | rfl | (simp only [World.size_alloc]; done) | (simp only [World.size_alloc]; omega) | simp)).alloc _).alloc _) e1)
  have HB3_1 : Hid (Blk w1 (w.heap.size + 1 + 1 + 1) #[.string ⟨#[]⟩, .string ⟨#[]⟩, .string ⟨#[]⟩, .string ⟨#[]⟩] 48) := Lib.hid (Blk.ext ((Blk.new' (w := _) (cs := #[.string ⟨#[]⟩, .string ⟨#[]⟩, .string ⟨#[]⟩, .string ⟨#[]⟩]) (t := 48) (by first | rfl | (simp only [World.size_alloc]; done) | (simp only [World.size_alloc]; omega) | simp)).alloc _) e1)
  have HB4_1 : Hid (Blk w1 (w.heap.size + 1 + 1 + 1 + 1) #[.string (qs a.x), .string (qs a.y), .string (qs a.z), .string (qs b.x), .string (qs b.y), .string (qs b.z), .string (qs c.x), .string (qs c.y), .string (qs c.z)] 30) := Lib.hid (Blk.ext (Blk.new' (w := _) (cs := #[.string (qs a.x), .string (qs a.y), .string (qs a.z), .string (qs b.x), .string (qs b.y), .string (qs b.z), .string (qs c.x), .string (qs c.y), .string (qs c.z)]) (t := 30) (by first | rfl | (simp only [World.size_alloc]; done) | (simp only [World.size_alloc]; omega) | simp)) e1)
  have HGEB0 : Hid (w.heap.size ≤ w.heap.size) := Lib.hid (by first | omega | (simp only []; omega) | (simp; omega))
  have HGEB1 : Hid (w.heap.size ≤ w.heap.size + 1) := Lib.hid (by first | omega | (simp only []; omega) | (simp; omega))
  have HGEB2 : Hid (w.heap.size ≤ w.heap.size + 1 + 1) := Lib.hid (by first | omega | (simp only []; omega) | (simp; omega))
  have HGEB3 : Hid (w.heap.size ≤ w.heap.size + 1 + 1 + 1) := Lib.hid (by first | omega | (simp only []; omega) | (simp; omega))
  have HGEB4 : Hid (w.heap.size ≤ w.heap.size + 1 + 1 + 1 + 1) := Lib.hid (by first | omega | (simp only []; omega) | (simp; omega))
  clear e1
  go_wp2_with fail
  have hS1 : w1.cell? ⟨w.heap.size + 1, 0, none⟩ = some (.string (qs b.x)) ∧ w1.cell? ⟨w.heap.size + 1, 1, none⟩ = some (.string (qs b.y)) ∧ w1.cell? ⟨w.heap.size + 1, 2, none⟩ = some (.string (qs b.z)) ∧ w1.cell? ⟨w.heap.size, 0, none⟩ = some (.string (qs a.x)) ∧ w1.cell? ⟨w.heap.size, 1, none⟩ = some (.string (qs a.y)) ∧ w1.cell? ⟨w.heap.size, 2, none⟩ = some (.string (qs a.z)) ∧ w1.cell? ⟨w.heap.size + 1 + 1, 0, none⟩ = some (.string (qs c.x)) ∧ w1.cell? ⟨w.heap.size + 1 + 1, 1, none⟩ = some (.string (qs c.y)) ∧ w1.cell? ⟨w.heap.size + 1 + 1, 2, none⟩ = some (.string (qs c.z)) := ⟨HB1_1.out.cell 0 rfl, HB1_1.out.cell 1 rfl, HB1_1.out.cell 2 rfl, HB0_1.out.cell 0 rfl, HB0_1.out.cell 1 rfl, HB0_1.out.cell 2 rfl, HB2_1.out.cell 0 rfl, HB2_1.out.cell 1 rfl, HB2_1.out.cell 2 rfl⟩
  have HS1 := Lib.hid hS1; clear hS1
  go_cut [9] from 22 to 30 (fun p9 wx => ∃ i5 : Nat, p9 = .pointer (some ⟨i5, 0, none⟩) ∧ w1.heap.size ≤ i5 ∧ Ext w1 wx ∧ Blk wx i5 #[.string (qs ((b.y - a.y) * (c.z - a.z) - (b.z - a.z) * (c.y - a.y))), .string (qs ((b.z - a.z) * (c.x - a.x) - (b.x - a.x) * (c.z - a.z))), .string (qs ((b.x - a.x) * (c.y - a.y) - (b.y - a.y) * (c.x - a.x)))] 30)
  case first =>
    go_region_held3 (fun w' => w'.cell? ⟨w.heap.size + 1, 0, none⟩ = some (.string (qs b.x)) ∧ w'.cell? ⟨w.heap.size + 1, 1, none⟩ = some (.string (qs b.y)) ∧ w'.cell? ⟨w.heap.size + 1, 2, none⟩ = some (.string (qs b.z)) ∧ w'.cell? ⟨w.heap.size, 0, none⟩ = some (.string (qs a.x)) ∧ w'.cell? ⟨w.heap.size, 1, none⟩ = some (.string (qs a.y)) ∧ w'.cell? ⟨w.heap.size, 2, none⟩ = some (.string (qs a.z)) ∧ w'.cell? ⟨w.heap.size + 1 + 1, 0, none⟩ = some (.string (qs c.x)) ∧ w'.cell? ⟨w.heap.size + 1 + 1, 1, none⟩ = some (.string (qs c.y)) ∧ w'.cell? ⟨w.heap.size + 1 + 1, 2, none⟩ = some (.string (qs c.z)))
      ((exact keepsH9 (by repeat (first | assumption | exact Ext.refl _ | apply Ext.drew | apply Ext.alloc | (refine Ext.setCell ?_ (by first | omega | (simp only []; omega) | (simp; omega)) _) | (refine Ext.trans ?_ (by assumption)))) HS1.out)) (first
      | (go_at_call 88; ((with_reducible refine (each_sub b a _ (HG.out.ext (HX1.out.trans (by repeat (first | assumption | exact Ext.refl _ | apply Ext.drew | apply Ext.alloc | (refine Ext.setCell ?_ (by first | omega | (simp only []; omega) | (simp; omega)) _) | (refine Ext.trans ?_ (by assumption)))))) HB.out HA.out (by omega) (by omega)).mono ?_); rintro e w2 ⟨rfl, e2⟩; have z2 := e2.size; (try simp at z2); (first | (have N2 : Blk w2 w1.heap.size #[.string ⟨#[]⟩, .string ⟨#[]⟩, .string ⟨#[]⟩] 30 := Blk.ext (Blk.new' (by rfl)) e2) | (have N2 : Blk w2 w1.heap.size #[.string ⟨#[]⟩, .string ⟨#[]⟩, .string ⟨#[]⟩] 30 := Blk.ext (Blk.drew (Blk.new' (by rfl))) e2) | skip)))
      | (go_at_call 77; ((with_reducible refine (vector_c ⟨qs (b.x - a.x), qs (b.y - a.y), qs (b.z - a.z)⟩ _).mono ?_); rintro e w3 ⟨rfl, e3⟩; have z3 := e3.size; (try simp at z3); (first | (have N3 : Blk w3 w2.heap.size #[.string ⟨#[]⟩, .string ⟨#[]⟩, .string ⟨#[]⟩] 30 := Blk.ext (Blk.new' (by rfl)) e3) | (have N3 : Blk w3 w2.heap.size #[.string ⟨#[]⟩, .string ⟨#[]⟩, .string ⟨#[]⟩] 30 := Blk.ext (Blk.drew (Blk.new' (by rfl))) e3) | (have N3 := Blk.ext N2 e3) | skip)))
      | (go_at_call 88; ((with_reducible refine (each_sub c a _ (HG.out.ext (HX1.out.trans (by repeat (first | assumption | exact Ext.refl _ | apply Ext.drew | apply Ext.alloc | (refine Ext.setCell ?_ (by first | omega | (simp only []; omega) | (simp; omega)) _) | (refine Ext.trans ?_ (by assumption)))))) HC.out HA.out (by omega) (by omega)).mono ?_); rintro e w4 ⟨rfl, e4⟩; have z4 := e4.size; (try simp at z4); (first | (have N4 : Blk w4 w3.heap.size #[.string ⟨#[]⟩, .string ⟨#[]⟩, .string ⟨#[]⟩] 30 := Blk.ext (Blk.new' (by rfl)) e4) | (have N4 : Blk w4 w3.heap.size #[.string ⟨#[]⟩, .string ⟨#[]⟩, .string ⟨#[]⟩] 30 := Blk.ext (Blk.drew (Blk.new' (by rfl))) e4) | (have N4 := Blk.ext N3 e4) | skip)))
      | (go_at_call 77; ((with_reducible refine (vector_c ⟨qs (c.x - a.x), qs (c.y - a.y), qs (c.z - a.z)⟩ _).mono ?_); rintro e w5 ⟨rfl, e5⟩; have z5 := e5.size; (try simp at z5); (first | (have N5 : Blk w5 w4.heap.size #[.string ⟨#[]⟩, .string ⟨#[]⟩, .string ⟨#[]⟩] 30 := Blk.ext (Blk.new' (by rfl)) e5) | (have N5 : Blk w5 w4.heap.size #[.string ⟨#[]⟩, .string ⟨#[]⟩, .string ⟨#[]⟩] 30 := Blk.ext (Blk.drew (Blk.new' (by rfl))) e5) | (have N5 := Blk.ext N4 e5) | skip)))
      | (go_at_call 83; ((with_reducible refine (vcross0_c ⟨b.x - a.x, b.y - a.y, b.z - a.z⟩ ⟨c.x - a.x, c.y - a.y, c.z - a.z⟩ _ (HG.out.ext (HX1.out.trans (by repeat (first | assumption | exact Ext.refl _ | apply Ext.drew | apply Ext.alloc | (refine Ext.setCell ?_ (by first | omega | (simp only []; omega) | (simp; omega)) _) | (refine Ext.trans ?_ (by assumption)))))) ⟨(HB.out.x.sub HA.out.x), (HB.out.y.sub HA.out.y), (HB.out.z.sub HA.out.z)⟩ ⟨(HC.out.x.sub HA.out.x), (HC.out.y.sub HA.out.y), (HC.out.z.sub HA.out.z)⟩ (by omega) (by omega)).mono ?_); rintro e w6 ⟨rfl, e6⟩; have z6 := e6.size; (try simp at z6); (first | (have N6 : Blk w6 w5.heap.size #[.string ⟨#[]⟩, .string ⟨#[]⟩, .string ⟨#[]⟩] 30 := Blk.ext (Blk.new' (by rfl)) e6) | (have N6 : Blk w6 w5.heap.size #[.string ⟨#[]⟩, .string ⟨#[]⟩, .string ⟨#[]⟩] 30 := Blk.ext (Blk.drew (Blk.new' (by rfl))) e6) | (have N6 := Blk.ext N5 e6) | skip); (first | (have q0 := N6.cell 0 rfl; have f0 := N6.free 0; have q1 := N6.cell 1 rfl; have f1 := N6.free 1; have q2 := N6.cell 2 rfl; have f2 := N6.free 2) | skip))))
    all_goals (go_wp2_with fail; go_meet)
    all_goals (refine ⟨_, rfl, by first | omega | (simp; omega), (by repeat (first | assumption | exact Ext.refl _ | apply Ext.drew | apply Ext.alloc | (refine Ext.setCell ?_ (by first | omega | (simp only []; omega) | (simp; omega)) _) | (refine Ext.trans ?_ (by assumption)))), ?_⟩)
    all_goals (repeat (first | assumption | (refine Blk.new' ?_; first | rfl | (simp only [World.size_alloc]; done) | (simp only [World.size_alloc]; omega)) | apply Blk.alloc | apply Blk.drew | (exact Blk.fill3 (by assumption)) | (refine Blk.ext ?_ (by assumption))))
  obtain ⟨i5, rfl, hgeB5, e7, bB5⟩ := hcut
  rename World => w7
  have HX7 : Hid (Ext w w7) := Lib.hid (HX1.out.trans e7)
  have HB3_7 := Lib.hid (HB3_1.out.ext e7)
  have HB5_7 := Lib.hid bB5; have HGEB5 : Hid (w.heap.size ≤ i5) := Lib.hid (Nat.le_trans HX1.out.size hgeB5)
  have HNEB3B5 : Hid (w.heap.size + 1 + 1 + 1 ≠ i5) := Lib.hid (by have := HB3_1.out.lt; omega)
  clear hgeB5 e7 bB5
  have c5_0 := HB5_7.out.cell 0 rfl
  have c5_1 := HB5_7.out.cell 1 rfl
  have c5_2 := HB5_7.out.cell 2 rfl
  go_wp2_with fail
  refine (vzero_t ⟨(b.y - a.y) * (c.z - a.z) - (b.z - a.z) * (c.y - a.y), (b.z - a.z) * (c.x - a.x) - (b.x - a.x) * (c.z - a.z), (b.x - a.x) * (c.y - a.y) - (b.y - a.y) * (c.x - a.x)⟩ _ H0.out).mono ?_; rintro e w8 ⟨rfl, e8⟩
  have HX8 : Hid (Ext w w8) := Lib.hid (HX7.out.trans e8)
  have HB3_8 : Hid (Blk w8 (w.heap.size + 1 + 1 + 1) #[.string ⟨#[]⟩, .string ⟨#[]⟩, .string ⟨#[]⟩, .string ⟨#[]⟩] 48) := Lib.hid (Blk.ext HB3_7.out e8)
  clear e8 c5_0 c5_1 c5_2
  have c3_0 := HB3_8.out.cell 0 rfl
  have f3_0 := HB3_8.out.free 0
  have c3_1 := HB3_8.out.cell 1 rfl
  have f3_1 := HB3_8.out.free 1
  have c3_2 := HB3_8.out.cell 2 rfl
  have f3_2 := HB3_8.out.free 2
  have c3_3 := HB3_8.out.cell 3 rfl
  have f3_3 := HB3_8.out.free 3
  go_wp2_with fail
  refine wp_name (fun W => Ext w W ∧ Blk W (w.heap.size + 1 + 1 + 1) #[.string ⟨#[]⟩, .string ⟨#[]⟩, .string ⟨#[]⟩, .string ⟨#[]⟩] 48) ⟨((((HX8.out.setCell (by have := HGEB3.out; first | omega | (simp only []; omega) | (simp; omega)) _).setCell (by have := HGEB3.out; first | omega | (simp only []; omega) | (simp; omega)) _).setCell (by have := HGEB3.out; first | omega | (simp only []; omega) | (simp; omega)) _).setCell (by have := HGEB3.out; first | omega | (simp only []; omega) | (simp; omega)) _), ((((HB3_8.out.set 0 (.string ⟨#[]⟩)).set 1 (.string ⟨#[]⟩)).set 2 (.string ⟨#[]⟩)).set 3 (.string ⟨#[]⟩))⟩ ?_
  rintro w9 ⟨e9, bB3_9⟩
  have HX9 := Lib.hid e9; have HB3_9 := Lib.hid bB3_9
  clear e9 bB3_9 c3_0 f3_0 c3_1 f3_1 c3_2 f3_2 c3_3 f3_3
  have gB3_0 := HB3_9.out.cell 0 rfl
  have gB3_1 := HB3_9.out.cell 1 rfl
  have gB3_2 := HB3_9.out.cell 2 rfl
  have gB3_3 := HB3_9.out.cell 3 rfl
  refine bodyPost_ret (v := .tuple #[.agg #[.string ⟨#[]⟩, .string ⟨#[]⟩, .string ⟨#[]⟩, .string ⟨#[]⟩], .int .i64 18]) (by simp [results, Tryz.results50, go_sem, gB3_0, gB3_1, gB3_2, gB3_3]) rfl ⟨rfl, HX9.out⟩

set_option maxRecDepth 100000 in
set_option maxHeartbeats 2000000 in
theorem vPierce_none (p : Pl) (a b : V3) (w : World) (g : Gd w) (hn : VB 200 p.n) (hc : QB 200 p.c) (ha : VB 200 a) (hb : VB 200 b) (hz : ¬ (p.n.x = 0 ∧ p.n.y = 0 ∧ p.n.z = 0)) (h0 : p.n.x * b.x + p.n.y * b.y + p.n.z * b.z = 0) : Calls Tryz.prog 52 #[.agg #[.string (qs p.n.x), .string (qs p.n.y), .string (qs p.n.z), .string (qs p.c)], .agg #[.string (qs a.x), .string (qs a.y), .string (qs a.z)], .agg #[.string (qs b.x), .string (qs b.y), .string (qs b.z)]] w (Ret w (.tuple #[.string ⟨#[]⟩, .int .i64 19])) := by
  have HN := Lib.hid hn
  have HC := Lib.hid hc
  have HG := Lib.hid g
  have HA := Lib.hid ha
  have HB := Lib.hid hb
  have HZ := Lib.hid hz
  clear hn hc g ha hb hz
  have h0_t := qs_is0 h0
  clear h0
  go_enter Tryz.func52, Tryz.ntmps52
  go_wp2_with fail
  refine (vPlane_ok p _ (HG.out.ext ((((Ext.refl w).alloc _).alloc _).alloc _)) HN.out HC.out HZ.out).mono ?_; rintro e w1 ⟨rfl, e1⟩
  have HX1 : Hid (Ext w w1) := Lib.hid (((((Ext.refl w).alloc _).alloc _).alloc _).trans e1)
  have HB0_1 : Hid (Blk w1 (w.heap.size) #[.string (qs p.n.x), .string (qs p.n.y), .string (qs p.n.z), .string (qs p.c)] 48) := Lib.hid (Blk.ext (((Blk.new' (w := _) (cs := #[.string (qs p.n.x), .string (qs p.n.y), .string (qs p.n.z), .string (qs p.c)]) (t := 48) (by first | rfl | (simp only [World.size_alloc]; done) | (simp only [World.size_alloc]; omega) | simp)).alloc _).alloc _) e1)
  have HB1_1 : Hid (Blk w1 (w.heap.size + 1) #[.string (qs a.x), .string (qs a.y), .string (qs a.z)] 30) := Lib.hid (Blk.ext ((Blk.new' (w := _) (cs := #[.string (qs a.x), .string (qs a.y), .string (qs a.z)]) (t := 30) (by first | rfl | (simp only [World.size_alloc]; done) | (simp only [World.size_alloc]; omega) | simp)).alloc _) e1)
  have HB2_1 : Hid (Blk w1 (w.heap.size + 1 + 1) #[.string (qs b.x), .string (qs b.y), .string (qs b.z)] 30) := Lib.hid (Blk.ext (Blk.new' (w := _) (cs := #[.string (qs b.x), .string (qs b.y), .string (qs b.z)]) (t := 30) (by first | rfl | (simp only [World.size_alloc]; done) | (simp only [World.size_alloc]; omega) | simp)) e1)
  have HGEB0 : Hid (w.heap.size ≤ w.heap.size) := Lib.hid (by first | omega | (simp only []; omega) | (simp; omega))
  have HGEB1 : Hid (w.heap.size ≤ w.heap.size + 1) := Lib.hid (by first | omega | (simp only []; omega) | (simp; omega))
  have HGEB2 : Hid (w.heap.size ≤ w.heap.size + 1 + 1) := Lib.hid (by first | omega | (simp only []; omega) | (simp; omega))
  clear e1
  have c1_0 := HB1_1.out.cell 0 rfl
  have c1_1 := HB1_1.out.cell 1 rfl
  have c1_2 := HB1_1.out.cell 2 rfl
  have c2_0 := HB2_1.out.cell 0 rfl
  have c2_1 := HB2_1.out.cell 1 rfl
  have c2_2 := HB2_1.out.cell 2 rfl
  go_wp2_with fail
  refine (vectors2_ok a b (w1.heap.size) _ (HG.out.ext (HX1.out.alloc _)) (HA.out.mono (by omega)) (HB.out.mono (by omega)) (Blk.new' (w := _) (cs := #[.string (qs a.x), .string (qs a.y), .string (qs a.z), .string (qs b.x), .string (qs b.y), .string (qs b.z)]) (t := 30) (by first | rfl | (simp only [World.size_alloc]; done) | (simp only [World.size_alloc]; omega) | simp))).mono ?_; rintro e w2 ⟨rfl, e2⟩
  have HX2 : Hid (Ext w w2) := Lib.hid ((HX1.out.alloc _).trans e2)
  have HB0_2 : Hid (Blk w2 (w.heap.size) #[.string (qs p.n.x), .string (qs p.n.y), .string (qs p.n.z), .string (qs p.c)] 48) := Lib.hid (Blk.ext (HB0_1.out.alloc _) e2)
  have HB2_2 : Hid (Blk w2 (w.heap.size + 1 + 1) #[.string (qs b.x), .string (qs b.y), .string (qs b.z)] 30) := Lib.hid (Blk.ext (HB2_1.out.alloc _) e2)
  have HB3_2 : Hid (Blk w2 (w1.heap.size) #[.string (qs a.x), .string (qs a.y), .string (qs a.z), .string (qs b.x), .string (qs b.y), .string (qs b.z)] 30) := Lib.hid (Blk.ext (Blk.new' (w := _) (cs := #[.string (qs a.x), .string (qs a.y), .string (qs a.z), .string (qs b.x), .string (qs b.y), .string (qs b.z)]) (t := 30) (by first | rfl | (simp only [World.size_alloc]; done) | (simp only [World.size_alloc]; omega) | simp)) e2)
  have HGEB3 : Hid (w.heap.size ≤ w1.heap.size) := Lib.hid (by have := HX1.out.size; first | omega | (simp only []; omega) | (simp; omega))
  clear e2 c1_0 c1_1 c1_2 c2_0 c2_1 c2_2
  have c0_0 := HB0_2.out.cell 0 rfl
  have c0_1 := HB0_2.out.cell 1 rfl
  have c0_2 := HB0_2.out.cell 2 rfl
  have c2_0 := HB2_2.out.cell 0 rfl
  have c2_1 := HB2_2.out.cell 1 rfl
  have c2_2 := HB2_2.out.cell 2 rfl
  go_wp2_with fail
  refine (vdot0_c p.n b _ (HG.out.ext HX2.out) HN.out HB.out (by omega) (by omega)).mono ?_; rintro e w3 ⟨rfl, e3⟩
  have HX3 : Hid (Ext w w3) := Lib.hid (HX2.out.trans e3)
  clear e3 c0_0 c0_1 c0_2 c2_0 c2_1 c2_2
  go_wp2
  go_ret2
  exact ⟨rfl, HX3.out⟩

set_option maxRecDepth 100000 in
set_option maxHeartbeats 2000000 in
theorem vPierce_ok (p : Pl) (a b : V3) (w : World) (g : Gd w) (hn : VB 200 p.n) (hc : QB 200 p.c) (ha : VB 200 a) (hb : VB 200 b) (hz : ¬ (p.n.x = 0 ∧ p.n.y = 0 ∧ p.n.z = 0)) (h0 : p.n.x * b.x + p.n.y * b.y + p.n.z * b.z ≠ 0) (hr : QB 200 ((p.c - (p.n.x * a.x + p.n.y * a.y + p.n.z * a.z)) / (p.n.x * b.x + p.n.y * b.y + p.n.z * b.z))) : Calls Tryz.prog 52 #[.agg #[.string (qs p.n.x), .string (qs p.n.y), .string (qs p.n.z), .string (qs p.c)], .agg #[.string (qs a.x), .string (qs a.y), .string (qs a.z)], .agg #[.string (qs b.x), .string (qs b.y), .string (qs b.z)]] w (Ret w (.tuple #[.string (qs ((p.c - (p.n.x * a.x + p.n.y * a.y + p.n.z * a.z)) / (p.n.x * b.x + p.n.y * b.y + p.n.z * b.z))), .int .i64 0])) := by
  have HN := Lib.hid hn
  have HC := Lib.hid hc
  have HG := Lib.hid g
  have HA := Lib.hid ha
  have HB := Lib.hid hb
  have HZ := Lib.hid hz
  have HR := Lib.hid hr
  clear hn hc g ha hb hz hr
  have h0_t := qs_not0 h0
  have H0 := Lib.hid h0
  clear h0
  go_enter Tryz.func52, Tryz.ntmps52
  go_wp2_with fail
  refine (vPlane_ok p _ (HG.out.ext ((((Ext.refl w).alloc _).alloc _).alloc _)) HN.out HC.out HZ.out).mono ?_; rintro e w1 ⟨rfl, e1⟩
  have HX1 : Hid (Ext w w1) := Lib.hid (((((Ext.refl w).alloc _).alloc _).alloc _).trans e1)
  have HB0_1 : Hid (Blk w1 (w.heap.size) #[.string (qs p.n.x), .string (qs p.n.y), .string (qs p.n.z), .string (qs p.c)] 48) := Lib.hid (Blk.ext (((Blk.new' (w := _) (cs := #[.string (qs p.n.x), .string (qs p.n.y), .string (qs p.n.z), .string (qs p.c)]) (t := 48) (by first | rfl | (simp only [World.size_alloc]; done) | (simp only [World.size_alloc]; omega) | simp)).alloc _).alloc _) e1)
  have HB1_1 : Hid (Blk w1 (w.heap.size + 1) #[.string (qs a.x), .string (qs a.y), .string (qs a.z)] 30) := Lib.hid (Blk.ext ((Blk.new' (w := _) (cs := #[.string (qs a.x), .string (qs a.y), .string (qs a.z)]) (t := 30) (by first | rfl | (simp only [World.size_alloc]; done) | (simp only [World.size_alloc]; omega) | simp)).alloc _) e1)
  have HB2_1 : Hid (Blk w1 (w.heap.size + 1 + 1) #[.string (qs b.x), .string (qs b.y), .string (qs b.z)] 30) := Lib.hid (Blk.ext (Blk.new' (w := _) (cs := #[.string (qs b.x), .string (qs b.y), .string (qs b.z)]) (t := 30) (by first | rfl | (simp only [World.size_alloc]; done) | (simp only [World.size_alloc]; omega) | simp)) e1)
  have HGEB0 : Hid (w.heap.size ≤ w.heap.size) := Lib.hid (by first | omega | (simp only []; omega) | (simp; omega))
  have HGEB1 : Hid (w.heap.size ≤ w.heap.size + 1) := Lib.hid (by first | omega | (simp only []; omega) | (simp; omega))
  have HGEB2 : Hid (w.heap.size ≤ w.heap.size + 1 + 1) := Lib.hid (by first | omega | (simp only []; omega) | (simp; omega))
  clear e1
  have c1_0 := HB1_1.out.cell 0 rfl
  have c1_1 := HB1_1.out.cell 1 rfl
  have c1_2 := HB1_1.out.cell 2 rfl
  have c2_0 := HB2_1.out.cell 0 rfl
  have c2_1 := HB2_1.out.cell 1 rfl
  have c2_2 := HB2_1.out.cell 2 rfl
  go_wp2_with fail
  refine (vectors2_ok a b (w1.heap.size) _ (HG.out.ext (HX1.out.alloc _)) (HA.out.mono (by omega)) (HB.out.mono (by omega)) (Blk.new' (w := _) (cs := #[.string (qs a.x), .string (qs a.y), .string (qs a.z), .string (qs b.x), .string (qs b.y), .string (qs b.z)]) (t := 30) (by first | rfl | (simp only [World.size_alloc]; done) | (simp only [World.size_alloc]; omega) | simp))).mono ?_; rintro e w2 ⟨rfl, e2⟩
  have HX2 : Hid (Ext w w2) := Lib.hid ((HX1.out.alloc _).trans e2)
  have HB0_2 : Hid (Blk w2 (w.heap.size) #[.string (qs p.n.x), .string (qs p.n.y), .string (qs p.n.z), .string (qs p.c)] 48) := Lib.hid (Blk.ext (HB0_1.out.alloc _) e2)
  have HB1_2 : Hid (Blk w2 (w.heap.size + 1) #[.string (qs a.x), .string (qs a.y), .string (qs a.z)] 30) := Lib.hid (Blk.ext (HB1_1.out.alloc _) e2)
  have HB2_2 : Hid (Blk w2 (w.heap.size + 1 + 1) #[.string (qs b.x), .string (qs b.y), .string (qs b.z)] 30) := Lib.hid (Blk.ext (HB2_1.out.alloc _) e2)
  have HB3_2 : Hid (Blk w2 (w1.heap.size) #[.string (qs a.x), .string (qs a.y), .string (qs a.z), .string (qs b.x), .string (qs b.y), .string (qs b.z)] 30) := Lib.hid (Blk.ext (Blk.new' (w := _) (cs := #[.string (qs a.x), .string (qs a.y), .string (qs a.z), .string (qs b.x), .string (qs b.y), .string (qs b.z)]) (t := 30) (by first | rfl | (simp only [World.size_alloc]; done) | (simp only [World.size_alloc]; omega) | simp)) e2)
  have HGEB3 : Hid (w.heap.size ≤ w1.heap.size) := Lib.hid (by have := HX1.out.size; first | omega | (simp only []; omega) | (simp; omega))
  clear e2 c1_0 c1_1 c1_2 c2_0 c2_1 c2_2
  have c0_0 := HB0_2.out.cell 0 rfl
  have c0_1 := HB0_2.out.cell 1 rfl
  have c0_2 := HB0_2.out.cell 2 rfl
  have c2_0 := HB2_2.out.cell 0 rfl
  have c2_1 := HB2_2.out.cell 1 rfl
  have c2_2 := HB2_2.out.cell 2 rfl
  go_wp2_with fail
  refine (vdot0_c p.n b _ (HG.out.ext HX2.out) HN.out HB.out (by omega) (by omega)).mono ?_; rintro e w3 ⟨rfl, e3⟩
  have HX3 : Hid (Ext w w3) := Lib.hid (HX2.out.trans e3)
  have HB0_3 : Hid (Blk w3 (w.heap.size) #[.string (qs p.n.x), .string (qs p.n.y), .string (qs p.n.z), .string (qs p.c)] 48) := Lib.hid (Blk.ext HB0_2.out e3)
  have HB1_3 : Hid (Blk w3 (w.heap.size + 1) #[.string (qs a.x), .string (qs a.y), .string (qs a.z)] 30) := Lib.hid (Blk.ext HB1_2.out e3)
  clear e3 c0_0 c0_1 c0_2 c2_0 c2_1 c2_2
  go_wp2_with fail
  refine wp_name (fun W => Ext w W ∧ Blk W (w.heap.size) #[.string (qs p.n.x), .string (qs p.n.y), .string (qs p.n.z), .string (qs p.c)] 48 ∧ Blk W (w.heap.size + 1) #[.string (qs a.x), .string (qs a.y), .string (qs a.z)] 30) ⟨HX3.out, HB0_3.out, HB1_3.out⟩ ?_
  rintro w4 ⟨e4, bB0_4, bB1_4⟩
  have HX4 := Lib.hid e4; have HB0_4 := Lib.hid bB0_4; have HB1_4 := Lib.hid bB1_4
  clear e4 bB0_4 bB1_4
  have hS4 : w4.cell? ⟨w.heap.size, 3, none⟩ = some (.string (qs p.c)) ∧ w4.cell? ⟨w.heap.size, 0, none⟩ = some (.string (qs p.n.x)) ∧ w4.cell? ⟨w.heap.size, 1, none⟩ = some (.string (qs p.n.y)) ∧ w4.cell? ⟨w.heap.size, 2, none⟩ = some (.string (qs p.n.z)) ∧ w4.cell? ⟨w.heap.size + 1, 0, none⟩ = some (.string (qs a.x)) ∧ w4.cell? ⟨w.heap.size + 1, 1, none⟩ = some (.string (qs a.y)) ∧ w4.cell? ⟨w.heap.size + 1, 2, none⟩ = some (.string (qs a.z)) := ⟨HB0_4.out.cell 3 rfl, HB0_4.out.cell 0 rfl, HB0_4.out.cell 1 rfl, HB0_4.out.cell 2 rfl, HB1_4.out.cell 0 rfl, HB1_4.out.cell 1 rfl, HB1_4.out.cell 2 rfl⟩
  have HS4 := Lib.hid hS4; clear hS4
  go_region_held3 (fun w' => w'.cell? ⟨w.heap.size, 3, none⟩ = some (.string (qs p.c)) ∧ w'.cell? ⟨w.heap.size, 0, none⟩ = some (.string (qs p.n.x)) ∧ w'.cell? ⟨w.heap.size, 1, none⟩ = some (.string (qs p.n.y)) ∧ w'.cell? ⟨w.heap.size, 2, none⟩ = some (.string (qs p.n.z)) ∧ w'.cell? ⟨w.heap.size + 1, 0, none⟩ = some (.string (qs a.x)) ∧ w'.cell? ⟨w.heap.size + 1, 1, none⟩ = some (.string (qs a.y)) ∧ w'.cell? ⟨w.heap.size + 1, 2, none⟩ = some (.string (qs a.z)))
    ((exact keepsH7 (by repeat (first | assumption | exact Ext.refl _ | apply Ext.drew | apply Ext.alloc | (refine Ext.setCell ?_ (by first | omega | (simp only []; omega) | (simp; omega)) _) | (refine Ext.trans ?_ (by assumption)))) HS4.out)) ((first
      | (go_at_call 87; ((with_reducible refine (vdot0_c p.n a _ (HG.out.ext (HX4.out.trans (by repeat (first | assumption | exact Ext.refl _ | apply Ext.drew | apply Ext.alloc | (refine Ext.setCell ?_ (by first | omega | (simp only []; omega) | (simp; omega)) _) | (refine Ext.trans ?_ (by assumption)))))) HN.out HA.out (by omega) (by omega)).mono ?_); rintro e w5 ⟨rfl, e5⟩))
      | (go_at_call 93; ((with_reducible refine (rsub_c p.c (p.n.x * a.x + p.n.y * a.y + p.n.z * a.z) _ (HG.out.ext (HX4.out.trans (by repeat (first | assumption | exact Ext.refl _ | apply Ext.drew | apply Ext.alloc | (refine Ext.setCell ?_ (by first | omega | (simp only []; omega) | (simp; omega)) _) | (refine Ext.trans ?_ (by assumption)))))) HC.out (((HN.out.x.mul HA.out.x).add (HN.out.y.mul HA.out.y)).add (HN.out.z.mul HA.out.z)) (by omega) (by omega)).mono ?_); rintro e w6 ⟨rfl, e6⟩))
      | (go_at_call 84; ((with_reducible refine (rdiv_c (p.c - (p.n.x * a.x + p.n.y * a.y + p.n.z * a.z)) (p.n.x * b.x + p.n.y * b.y + p.n.z * b.z) _ (HG.out.ext (HX4.out.trans (by repeat (first | assumption | exact Ext.refl _ | apply Ext.drew | apply Ext.alloc | (refine Ext.setCell ?_ (by first | omega | (simp only []; omega) | (simp; omega)) _) | (refine Ext.trans ?_ (by assumption)))))) (HC.out.sub (((HN.out.x.mul HA.out.x).add (HN.out.y.mul HA.out.y)).add (HN.out.z.mul HA.out.z))) (((HN.out.x.mul HB.out.x).add (HN.out.y.mul HB.out.y)).add (HN.out.z.mul HB.out.z)) (by omega) (by omega) (by omega) H0.out).mono ?_); rintro e w7 ⟨rfl, e7⟩))))
  refine wp_name (fun W => Ext w W) (HX4.out.trans ((((Ext.refl _).drew.trans e5).trans e6).trans e7)) ?_
  rintro w8 e8
  have HX8 := Lib.hid e8
  clear e8
  go_wp2_with fail
  refine (number_no ((p.c - (p.n.x * a.x + p.n.y * a.y + p.n.z * a.z)) / (p.n.x * b.x + p.n.y * b.y + p.n.z * b.z)) _ HR.out).mono ?_; rintro e w9 ⟨rfl, e9⟩
  have HX9 : Hid (Ext w w9) := Lib.hid (HX8.out.trans e9)
  clear e9
  go_wp2
  go_ret2
  exact ⟨rfl, HX9.out⟩
end Go.Proofs.YtglppcmegocphaaGreatDoor
