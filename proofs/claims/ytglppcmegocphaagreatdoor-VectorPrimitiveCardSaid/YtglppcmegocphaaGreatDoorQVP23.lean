/- Part 23 of the proof: L4. -/
import Derived.Test.YtglppcmegocphaaGreatDoorQVP22
namespace Go.Proofs.YtglppcmegocphaaGreatDoor
open Go Go.RowKit
theorem sint_t (q : Rat) {k : Nat} (w : World) (hq : QB k q) (hk : k ≤ 9000) (h : q.den = 1) : Calls Tryz.prog 18 #[.string (qs q)] w (Ret w (.bool true)) := by
  have := sintegral_c q w hq hk; rwa [decide_eq_true h] at this
theorem sint_f (q : Rat) {k : Nat} (w : World) (hq : QB k q) (hk : k ≤ 9000) (h : q.den ≠ 1) : Calls Tryz.prog 18 #[.string (qs q)] w (Ret w (.bool false)) := by
  have := sintegral_c q w hq hk; rwa [decide_eq_false h] at this
theorem sright_v (v : V3) (w : World) (g : Gd w) (hv : VB 200 v) : Calls Tryz.prog 17 #[.agg #[.string (qs v.x), .string (qs v.y), .string (qs v.z)]] w (Ret w (.bool true)) :=
  sright_3 ⟨qs v.x, qs v.y, qs v.z⟩ w g hv.ts (rq_qs hv.x) (rq_qs hv.y) (rq_qs hv.z)
theorem one_over {k : Nat} (h0 : 2 ≤ k) (h1 : k < 40) : QB 2 (mkRat 1 k) := QB.mk' (by omega) (by decide) (by omega)
theorem fqof_1k (k : Nat) (w : World) (g : Gd w) (h0 : 2 ≤ k) (h1 : k < 40) : Calls Tryz.prog 22 #[.int .i64 1, .int .i64 (k : Int)] w (Ret w (.string (qs (mkRat 1 k)))) := fqof_c 1 k w g (by omega) (by omega) (by omega) (by omega)

set_option maxRecDepth 100000 in
set_option maxHeartbeats 2000000 in
theorem prim_walk0 (p : Pla) (w : World) (g : Gd w) (hp : PlaOk p) (hz : (pvec p).x = 0 ∧ (pvec p).y = 0 ∧ (pvec p).z = 0) : Calls Tryz.prog 3 #[.agg #[.int .i16 p.n0, .int .u8 (p.d0 : Int), .int .i16 p.n1, .int .u8 (p.d1 : Int), .int .i16 p.n2, .int .u8 (p.d2 : Int)]] w (Ret w (.bool true)) := by
  have Hp := Lib.hid hp
  have HG := Lib.hid g
  clear hp g
  obtain ⟨a, ea⟩ : ∃ a, pvec p = a := ⟨_, rfl⟩
  have HaE := Lib.hid ea; have Ha : Hid (VB 5 a) := Lib.hid (ea ▸ Hp.out.v); have HZ : Hid (a.x = 0 ∧ a.y = 0 ∧ a.z = 0) := Lib.hid (ea ▸ hz); clear ea hz
  go_enter Tryz.func3, Tryz.ntmps3
  go_wp2_with fail
  refine (known_c _ (HG.out.ext ((Ext.refl w).alloc _))).mono ?_; rintro e w1 ⟨rfl, e1⟩
  have HX1 : Hid (Ext w w1) := Lib.hid (((Ext.refl w).alloc _).trans e1)
  have HB0_1 : Hid (Blk w1 (w.heap.size) #[.int .i16 p.n0, .int .u8 (p.d0 : Int), .int .i16 p.n1, .int .u8 (p.d1 : Int), .int .i16 p.n2, .int .u8 (p.d2 : Int)] 26) := Lib.hid (Blk.ext (Blk.new' (w := _) (cs := #[.int .i16 p.n0, .int .u8 (p.d0 : Int), .int .i16 p.n1, .int .u8 (p.d1 : Int), .int .i16 p.n2, .int .u8 (p.d2 : Int)]) (t := 26) (by first | rfl | (simp only [World.size_alloc]; done) | (simp only [World.size_alloc]; omega) | simp)) e1)
  have HGEB0 : Hid (w.heap.size ≤ w.heap.size) := Lib.hid (by first | omega | (simp only []; omega) | (simp; omega))
  clear e1
  have c0_0 := HB0_1.out.cell 0 rfl
  have c0_1 := HB0_1.out.cell 1 rfl
  have c0_2 := HB0_1.out.cell 2 rfl
  have c0_3 := HB0_1.out.cell 3 rfl
  have c0_4 := HB0_1.out.cell 4 rfl
  have c0_5 := HB0_1.out.cell 5 rfl
  go_wp2_with fail
  refine ((HaE.out ▸ make_c p _ (HG.out.ext HX1.out) Hp.out)).mono ?_; rintro e w2 ⟨rfl, e2⟩
  have HX2 : Hid (Ext w w2) := Lib.hid (HX1.out.trans e2)
  have HB0_2 : Hid (Blk w2 (w.heap.size) #[.int .i16 p.n0, .int .u8 (p.d0 : Int), .int .i16 p.n1, .int .u8 (p.d1 : Int), .int .i16 p.n2, .int .u8 (p.d2 : Int)] 26) := Lib.hid (Blk.ext HB0_1.out e2)
  clear e2 c0_0 c0_1 c0_2 c0_3 c0_4 c0_5
  go_upto_region 4 with fail
  refine wp_name (fun W => Ext w W ∧ Blk W (w.heap.size) #[.int .i16 p.n0, .int .u8 (p.d0 : Int), .int .i16 p.n1, .int .u8 (p.d1 : Int), .int .i16 p.n2, .int .u8 (p.d2 : Int)] 26 ∧ Blk W (w2.heap.size) #[.string (qs a.x), .string (qs a.y), .string (qs a.z)] 30) ⟨(HX2.out.alloc _), (HB0_2.out.alloc _), (Blk.new' (w := _) (cs := #[.string (qs a.x), .string (qs a.y), .string (qs a.z)]) (t := 30) (by first | rfl | (simp only [World.size_alloc]; done) | (simp only [World.size_alloc]; omega) | simp))⟩ ?_
  rintro w3 ⟨e3, bB0_3, bB1_3⟩
  have HX3 := Lib.hid e3; have HB0_3 := Lib.hid bB0_3; have HB1_3 := Lib.hid bB1_3
  have HGEB1 : Hid (w.heap.size ≤ w2.heap.size) := Lib.hid (by have := HX2.out.size; first | omega | (simp only []; omega) | (simp; omega))
  clear e3 bB0_3 bB1_3
  have c1_0 := HB1_3.out.cell 0 rfl
  have c1_1 := HB1_3.out.cell 1 rfl
  have c1_2 := HB1_3.out.cell 2 rfl
  go_wp2_with fail
  refine (vPrim_zero a _ (HG.out.ext HX3.out) (Ha.out.mono (by omega)) HZ.out).mono ?_; rintro e w4 ⟨rfl, e4⟩
  have HX4 : Hid (Ext w w4) := Lib.hid (HX3.out.trans e4)
  have HB0_4 : Hid (Blk w4 (w.heap.size) #[.int .i16 p.n0, .int .u8 (p.d0 : Int), .int .i16 p.n1, .int .u8 (p.d1 : Int), .int .i16 p.n2, .int .u8 (p.d2 : Int)] 26) := Lib.hid (Blk.ext HB0_3.out e4)
  have HB1_4 : Hid (Blk w4 (w2.heap.size) #[.string (qs a.x), .string (qs a.y), .string (qs a.z)] 30) := Lib.hid (Blk.ext HB1_3.out e4)
  clear e4 c1_0 c1_1 c1_2
  go_upto_region 5 with fail
  refine wp_name (fun W => Ext w W ∧ Blk W (w.heap.size) #[.int .i16 p.n0, .int .u8 (p.d0 : Int), .int .i16 p.n1, .int .u8 (p.d1 : Int), .int .i16 p.n2, .int .u8 (p.d2 : Int)] 26 ∧ Blk W (w2.heap.size) #[.string (qs a.x), .string (qs a.y), .string (qs a.z)] 30 ∧ Blk W (w4.heap.size) #[.string ⟨#[]⟩, .string ⟨#[]⟩, .string ⟨#[]⟩] 30) ⟨(HX4.out.alloc _), (HB0_4.out.alloc _), (HB1_4.out.alloc _), (Blk.new' (w := _) (cs := #[.string ⟨#[]⟩, .string ⟨#[]⟩, .string ⟨#[]⟩]) (t := 30) (by first | rfl | (simp only [World.size_alloc]; done) | (simp only [World.size_alloc]; omega) | simp))⟩ ?_
  rintro w5 ⟨e5, bB0_5, bB1_5, bB2_5⟩
  have HX5 := Lib.hid e5; have HB0_5 := Lib.hid bB0_5; have HB1_5 := Lib.hid bB1_5; have HB2_5 := Lib.hid bB2_5
  have HGEB2 : Hid (w.heap.size ≤ w4.heap.size) := Lib.hid (by have := HX4.out.size; first | omega | (simp only []; omega) | (simp; omega))
  clear e5 bB0_5 bB1_5 bB2_5
  have c1_0 := HB1_5.out.cell 0 rfl
  have c1_1 := HB1_5.out.cell 1 rfl
  have c1_2 := HB1_5.out.cell 2 rfl
  go_wp2_with fail
  refine (szero_t a _ HZ.out).mono ?_; rintro e w6 ⟨rfl, e6⟩
  have HX6 : Hid (Ext w w6) := Lib.hid (HX5.out.trans e6)
  have HB0_6 : Hid (Blk w6 (w.heap.size) #[.int .i16 p.n0, .int .u8 (p.d0 : Int), .int .i16 p.n1, .int .u8 (p.d1 : Int), .int .i16 p.n2, .int .u8 (p.d2 : Int)] 26) := Lib.hid (Blk.ext HB0_5.out e6)
  have HB1_6 : Hid (Blk w6 (w2.heap.size) #[.string (qs a.x), .string (qs a.y), .string (qs a.z)] 30) := Lib.hid (Blk.ext HB1_5.out e6)
  have HB2_6 : Hid (Blk w6 (w4.heap.size) #[.string ⟨#[]⟩, .string ⟨#[]⟩, .string ⟨#[]⟩] 30) := Lib.hid (Blk.ext HB2_5.out e6)
  clear e6 c1_0 c1_1 c1_2
  have c2_0 := HB2_6.out.cell 0 rfl
  have c2_1 := HB2_6.out.cell 1 rfl
  have c2_2 := HB2_6.out.cell 2 rfl
  go_wp2
  go_ret
  exact ⟨rfl, HX6.out⟩

set_option maxRecDepth 100000 in
set_option maxHeartbeats 8000000 in
theorem prim_walk1 (p : Pla) (w : World) (g : Gd w) (hp : PlaOk p) (hz : ¬ ((pvec p).x = 0 ∧ (pvec p).y = 0 ∧ (pvec p).z = 0)) : Calls Tryz.prog 3 #[.agg #[.int .i16 p.n0, .int .u8 (p.d0 : Int), .int .i16 p.n1, .int .u8 (p.d1 : Int), .int .i16 p.n2, .int .u8 (p.d2 : Int)]] w (Ret w (.bool true)) := by
  have Hp := Lib.hid hp
  have HG := Lib.hid g
  clear hp g
  obtain ⟨a, ea⟩ : ∃ a, pvec p = a := ⟨_, rfl⟩
  have HaE := Lib.hid ea; have Ha : Hid (VB 5 a) := Lib.hid (ea ▸ Hp.out.v); have HZ : Hid (¬ (a.x = 0 ∧ a.y = 0 ∧ a.z = 0)) := Lib.hid (ea ▸ hz); clear ea hz
  have HP0 := Lib.hid (prim_plain a HZ.out Ha.out)
  obtain ⟨P, eP⟩ : ∃ P, vprim a = P := ⟨_, rfl⟩
  have HPE := Lib.hid eP; have HPP : Hid (PrimOk a P) := Lib.hid (eP ▸ HP0.out.2.2.2); clear eP
  have HP : Hid (VB 60 P) := Lib.hid HPP.out.vb
  have HCZ := Lib.hid HPP.out.cross; have HSG := Lib.hid HPP.out.dot
  go_enter Tryz.func3, Tryz.ntmps3
  go_wp2_with fail
  refine (known_c _ (HG.out.ext ((Ext.refl w).alloc _))).mono ?_; rintro e w1 ⟨rfl, e1⟩
  have HX1 : Hid (Ext w w1) := Lib.hid (((Ext.refl w).alloc _).trans e1)
  have HB0_1 : Hid (Blk w1 (w.heap.size) #[.int .i16 p.n0, .int .u8 (p.d0 : Int), .int .i16 p.n1, .int .u8 (p.d1 : Int), .int .i16 p.n2, .int .u8 (p.d2 : Int)] 26) := Lib.hid (Blk.ext (Blk.new' (w := _) (cs := #[.int .i16 p.n0, .int .u8 (p.d0 : Int), .int .i16 p.n1, .int .u8 (p.d1 : Int), .int .i16 p.n2, .int .u8 (p.d2 : Int)]) (t := 26) (by first | rfl | (simp only [World.size_alloc]; done) | (simp only [World.size_alloc]; omega) | simp)) e1)
  have HGEB0 : Hid (w.heap.size ≤ w.heap.size) := Lib.hid (by first | omega | (simp only []; omega) | (simp; omega))
  clear e1
  have c0_0 := HB0_1.out.cell 0 rfl
  have c0_1 := HB0_1.out.cell 1 rfl
  have c0_2 := HB0_1.out.cell 2 rfl
  have c0_3 := HB0_1.out.cell 3 rfl
  have c0_4 := HB0_1.out.cell 4 rfl
  have c0_5 := HB0_1.out.cell 5 rfl
  go_wp2_with fail
  refine ((HaE.out ▸ make_c p _ (HG.out.ext HX1.out) Hp.out)).mono ?_; rintro e w2 ⟨rfl, e2⟩
  have HX2 : Hid (Ext w w2) := Lib.hid (HX1.out.trans e2)
  have HB0_2 : Hid (Blk w2 (w.heap.size) #[.int .i16 p.n0, .int .u8 (p.d0 : Int), .int .i16 p.n1, .int .u8 (p.d1 : Int), .int .i16 p.n2, .int .u8 (p.d2 : Int)] 26) := Lib.hid (Blk.ext HB0_1.out e2)
  clear e2 c0_0 c0_1 c0_2 c0_3 c0_4 c0_5
  go_upto_region 4 with fail
  refine wp_name (fun W => Ext w W ∧ Blk W (w.heap.size) #[.int .i16 p.n0, .int .u8 (p.d0 : Int), .int .i16 p.n1, .int .u8 (p.d1 : Int), .int .i16 p.n2, .int .u8 (p.d2 : Int)] 26 ∧ Blk W (w2.heap.size) #[.string (qs a.x), .string (qs a.y), .string (qs a.z)] 30) ⟨(HX2.out.alloc _), (HB0_2.out.alloc _), (Blk.new' (w := _) (cs := #[.string (qs a.x), .string (qs a.y), .string (qs a.z)]) (t := 30) (by first | rfl | (simp only [World.size_alloc]; done) | (simp only [World.size_alloc]; omega) | simp))⟩ ?_
  rintro w3 ⟨e3, bB0_3, bB1_3⟩
  have HX3 := Lib.hid e3; have HB0_3 := Lib.hid bB0_3; have HB1_3 := Lib.hid bB1_3
  have HGEB1 : Hid (w.heap.size ≤ w2.heap.size) := Lib.hid (by have := HX2.out.size; first | omega | (simp only []; omega) | (simp; omega))
  clear e3 bB0_3 bB1_3
  have c1_0 := HB1_3.out.cell 0 rfl
  have c1_1 := HB1_3.out.cell 1 rfl
  have c1_2 := HB1_3.out.cell 2 rfl
  go_wp2_with fail
  refine ((HPE.out ▸ vPrim_ok a _ (HG.out.ext HX3.out) (Ha.out.mono (by omega)) HZ.out HP0.out.1 HP0.out.2.1 HP0.out.2.2.1)).mono ?_; rintro e w4 ⟨rfl, e4⟩
  have HX4 : Hid (Ext w w4) := Lib.hid (HX3.out.trans e4)
  have HB0_4 : Hid (Blk w4 (w.heap.size) #[.int .i16 p.n0, .int .u8 (p.d0 : Int), .int .i16 p.n1, .int .u8 (p.d1 : Int), .int .i16 p.n2, .int .u8 (p.d2 : Int)] 26) := Lib.hid (Blk.ext HB0_3.out e4)
  have HB1_4 : Hid (Blk w4 (w2.heap.size) #[.string (qs a.x), .string (qs a.y), .string (qs a.z)] 30) := Lib.hid (Blk.ext HB1_3.out e4)
  clear e4 c1_0 c1_1 c1_2
  go_upto_region 5 with fail
  refine wp_name (fun W => Ext w W ∧ Blk W (w.heap.size) #[.int .i16 p.n0, .int .u8 (p.d0 : Int), .int .i16 p.n1, .int .u8 (p.d1 : Int), .int .i16 p.n2, .int .u8 (p.d2 : Int)] 26 ∧ Blk W (w2.heap.size) #[.string (qs a.x), .string (qs a.y), .string (qs a.z)] 30 ∧ Blk W (w4.heap.size) #[.string (qs P.x), .string (qs P.y), .string (qs P.z)] 30) ⟨(HX4.out.alloc _), (HB0_4.out.alloc _), (HB1_4.out.alloc _), (Blk.new' (w := _) (cs := #[.string (qs P.x), .string (qs P.y), .string (qs P.z)]) (t := 30) (by first | rfl | (simp only [World.size_alloc]; done) | (simp only [World.size_alloc]; omega) | simp))⟩ ?_
  rintro w5 ⟨e5, bB0_5, bB1_5, bB2_5⟩
  have HX5 := Lib.hid e5; have HB0_5 := Lib.hid bB0_5; have HB1_5 := Lib.hid bB1_5; have HB2_5 := Lib.hid bB2_5
  have HGEB2 : Hid (w.heap.size ≤ w4.heap.size) := Lib.hid (by have := HX4.out.size; first | omega | (simp only []; omega) | (simp; omega))
  clear e5 bB0_5 bB1_5 bB2_5
  have c1_0 := HB1_5.out.cell 0 rfl
  have c1_1 := HB1_5.out.cell 1 rfl
  have c1_2 := HB1_5.out.cell 2 rfl
  go_wp2_with fail
  refine (szero_f a _ HZ.out).mono ?_; rintro e w6 ⟨rfl, e6⟩
  have HX6 : Hid (Ext w w6) := Lib.hid (HX5.out.trans e6)
  have HB0_6 : Hid (Blk w6 (w.heap.size) #[.int .i16 p.n0, .int .u8 (p.d0 : Int), .int .i16 p.n1, .int .u8 (p.d1 : Int), .int .i16 p.n2, .int .u8 (p.d2 : Int)] 26) := Lib.hid (Blk.ext HB0_5.out e6)
  have HB1_6 : Hid (Blk w6 (w2.heap.size) #[.string (qs a.x), .string (qs a.y), .string (qs a.z)] 30) := Lib.hid (Blk.ext HB1_5.out e6)
  have HB2_6 : Hid (Blk w6 (w4.heap.size) #[.string (qs P.x), .string (qs P.y), .string (qs P.z)] 30) := Lib.hid (Blk.ext HB2_5.out e6)
  clear e6 c1_0 c1_1 c1_2
  have c2_0 := HB2_6.out.cell 0 rfl
  have c2_1 := HB2_6.out.cell 1 rfl
  have c2_2 := HB2_6.out.cell 2 rfl
  go_wp2_with fail
  refine (sright_v P _ (HG.out.ext HX6.out) (HP.out.mono (by omega))).mono ?_; rintro e w7 ⟨rfl, e7⟩
  have HX7 : Hid (Ext w w7) := Lib.hid (HX6.out.trans e7)
  have HB0_7 : Hid (Blk w7 (w.heap.size) #[.int .i16 p.n0, .int .u8 (p.d0 : Int), .int .i16 p.n1, .int .u8 (p.d1 : Int), .int .i16 p.n2, .int .u8 (p.d2 : Int)] 26) := Lib.hid (Blk.ext HB0_6.out e7)
  have HB1_7 : Hid (Blk w7 (w2.heap.size) #[.string (qs a.x), .string (qs a.y), .string (qs a.z)] 30) := Lib.hid (Blk.ext HB1_6.out e7)
  have HB2_7 : Hid (Blk w7 (w4.heap.size) #[.string (qs P.x), .string (qs P.y), .string (qs P.z)] 30) := Lib.hid (Blk.ext HB2_6.out e7)
  clear e7 c2_0 c2_1 c2_2
  have c2_0 := HB2_7.out.cell 0 rfl
  go_wp2_with fail
  refine (sint_t P.x _ HP.out.x (by omega) HPP.out.ix).mono ?_; rintro e w8 ⟨rfl, e8⟩
  have HX8 : Hid (Ext w w8) := Lib.hid (HX7.out.trans e8)
  have HB0_8 : Hid (Blk w8 (w.heap.size) #[.int .i16 p.n0, .int .u8 (p.d0 : Int), .int .i16 p.n1, .int .u8 (p.d1 : Int), .int .i16 p.n2, .int .u8 (p.d2 : Int)] 26) := Lib.hid (Blk.ext HB0_7.out e8)
  have HB1_8 : Hid (Blk w8 (w2.heap.size) #[.string (qs a.x), .string (qs a.y), .string (qs a.z)] 30) := Lib.hid (Blk.ext HB1_7.out e8)
  have HB2_8 : Hid (Blk w8 (w4.heap.size) #[.string (qs P.x), .string (qs P.y), .string (qs P.z)] 30) := Lib.hid (Blk.ext HB2_7.out e8)
  clear e8 c2_0
  have c2_1 := HB2_8.out.cell 1 rfl
  go_wp2_with fail
  refine (sint_t P.y _ HP.out.y (by omega) HPP.out.iy).mono ?_; rintro e w9 ⟨rfl, e9⟩
  have HX9 : Hid (Ext w w9) := Lib.hid (HX8.out.trans e9)
  have HB0_9 : Hid (Blk w9 (w.heap.size) #[.int .i16 p.n0, .int .u8 (p.d0 : Int), .int .i16 p.n1, .int .u8 (p.d1 : Int), .int .i16 p.n2, .int .u8 (p.d2 : Int)] 26) := Lib.hid (Blk.ext HB0_8.out e9)
  have HB1_9 : Hid (Blk w9 (w2.heap.size) #[.string (qs a.x), .string (qs a.y), .string (qs a.z)] 30) := Lib.hid (Blk.ext HB1_8.out e9)
  have HB2_9 : Hid (Blk w9 (w4.heap.size) #[.string (qs P.x), .string (qs P.y), .string (qs P.z)] 30) := Lib.hid (Blk.ext HB2_8.out e9)
  clear e9 c2_1
  have c2_2 := HB2_9.out.cell 2 rfl
  go_wp2_with fail
  refine (sint_t P.z _ HP.out.z (by omega) HPP.out.iz).mono ?_; rintro e w10 ⟨rfl, e10⟩
  have HX10 : Hid (Ext w w10) := Lib.hid (HX9.out.trans e10)
  have HB0_10 : Hid (Blk w10 (w.heap.size) #[.int .i16 p.n0, .int .u8 (p.d0 : Int), .int .i16 p.n1, .int .u8 (p.d1 : Int), .int .i16 p.n2, .int .u8 (p.d2 : Int)] 26) := Lib.hid (Blk.ext HB0_9.out e10)
  have HB1_10 : Hid (Blk w10 (w2.heap.size) #[.string (qs a.x), .string (qs a.y), .string (qs a.z)] 30) := Lib.hid (Blk.ext HB1_9.out e10)
  have HB2_10 : Hid (Blk w10 (w4.heap.size) #[.string (qs P.x), .string (qs P.y), .string (qs P.z)] 30) := Lib.hid (Blk.ext HB2_9.out e10)
  clear e10 c2_2
  have c1_0 := HB1_10.out.cell 0 rfl
  have c1_1 := HB1_10.out.cell 1 rfl
  have c1_2 := HB1_10.out.cell 2 rfl
  have c2_0 := HB2_10.out.cell 0 rfl
  have c2_1 := HB2_10.out.cell 1 rfl
  have c2_2 := HB2_10.out.cell 2 rfl
  go_wp2_with fail
  refine (scross_x a P _ (HG.out.ext HX10.out) Ha.out HP.out (by omega) (by omega)).mono ?_; rintro e w11 ⟨rfl, e11⟩
  have HX11 : Hid (Ext w w11) := Lib.hid (HX10.out.trans e11)
  have HB0_11 : Hid (Blk w11 (w.heap.size) #[.int .i16 p.n0, .int .u8 (p.d0 : Int), .int .i16 p.n1, .int .u8 (p.d1 : Int), .int .i16 p.n2, .int .u8 (p.d2 : Int)] 26) := Lib.hid (Blk.ext HB0_10.out e11)
  have HB1_11 : Hid (Blk w11 (w2.heap.size) #[.string (qs a.x), .string (qs a.y), .string (qs a.z)] 30) := Lib.hid (Blk.ext HB1_10.out e11)
  have HB2_11 : Hid (Blk w11 (w4.heap.size) #[.string (qs P.x), .string (qs P.y), .string (qs P.z)] 30) := Lib.hid (Blk.ext HB2_10.out e11)
  clear e11 c1_0 c1_1 c1_2 c2_0 c2_1 c2_2
  go_wp2_with fail
  refine (szero_t ⟨a.y * P.z - a.z * P.y, a.z * P.x - a.x * P.z, a.x * P.y - a.y * P.x⟩ _ HCZ.out).mono ?_; rintro e w12 ⟨rfl, e12⟩
  have HX12 : Hid (Ext w w12) := Lib.hid (HX11.out.trans e12)
  have HB0_12 : Hid (Blk w12 (w.heap.size) #[.int .i16 p.n0, .int .u8 (p.d0 : Int), .int .i16 p.n1, .int .u8 (p.d1 : Int), .int .i16 p.n2, .int .u8 (p.d2 : Int)] 26) := Lib.hid (Blk.ext HB0_11.out e12)
  have HB1_12 : Hid (Blk w12 (w2.heap.size) #[.string (qs a.x), .string (qs a.y), .string (qs a.z)] 30) := Lib.hid (Blk.ext HB1_11.out e12)
  have HB2_12 : Hid (Blk w12 (w4.heap.size) #[.string (qs P.x), .string (qs P.y), .string (qs P.z)] 30) := Lib.hid (Blk.ext HB2_11.out e12)
  clear e12
  have c1_0 := HB1_12.out.cell 0 rfl
  have c1_1 := HB1_12.out.cell 1 rfl
  have c1_2 := HB1_12.out.cell 2 rfl
  have c2_0 := HB2_12.out.cell 0 rfl
  have c2_1 := HB2_12.out.cell 1 rfl
  have c2_2 := HB2_12.out.cell 2 rfl
  go_wp2_with fail
  refine (sdot_x a P _ (HG.out.ext HX12.out) Ha.out HP.out (by omega) (by omega)).mono ?_; rintro e w13 ⟨rfl, e13⟩
  have HX13 : Hid (Ext w w13) := Lib.hid (HX12.out.trans e13)
  have HB0_13 : Hid (Blk w13 (w.heap.size) #[.int .i16 p.n0, .int .u8 (p.d0 : Int), .int .i16 p.n1, .int .u8 (p.d1 : Int), .int .i16 p.n2, .int .u8 (p.d2 : Int)] 26) := Lib.hid (Blk.ext HB0_12.out e13)
  have HB1_13 : Hid (Blk w13 (w2.heap.size) #[.string (qs a.x), .string (qs a.y), .string (qs a.z)] 30) := Lib.hid (Blk.ext HB1_12.out e13)
  have HB2_13 : Hid (Blk w13 (w4.heap.size) #[.string (qs P.x), .string (qs P.y), .string (qs P.z)] 30) := Lib.hid (Blk.ext HB2_12.out e13)
  clear e13 c1_0 c1_1 c1_2 c2_0 c2_1 c2_2
  go_wp2_with fail
  refine ((HSG.out ▸ fqsign_c (a.x * P.x + (a.y * P.y + a.z * P.z)) _)).mono ?_; rintro e _ ⟨rfl, rfl⟩
  go_wp2_with fail
  go_loopw [6] (fun x wx => ∃ k : Nat, x = .int .i64 k ∧ 2 ≤ k ∧ k ≤ 40 ∧ Hid (Ext w wx ∧ Blk wx (w4.heap.size) #[.string (qs P.x), .string (qs P.y), .string (qs P.z)] 30)) (fun x _ => 40 - (intOf x).toNat)
  case atStart => exact ⟨2, rfl, by omega, by omega, Lib.hid ⟨HX13.out, HB2_13.out⟩⟩
  case round =>
    rename_i w14
    obtain ⟨k, rfl, hlo, hhi, HH⟩ := hrel
    have HX14 := Lib.hid HH.out.1; have HB2_14 := Lib.hid HH.out.2
    clear HH
    by_cases hlt : k < 40
    · rcases HPP.out.some k hlo with hi | hi | hi
      · have h0 := hi
        have HI0 := Lib.hid h0; clear h0 hi
        go_wp2_with fail
        refine (fqof_1k k _ (HG.out.ext HX14.out) hlo hlt).mono ?_; rintro e w15 ⟨rfl, e15⟩
        have HX15 : Hid (Ext w w15) := Lib.hid (HX14.out.trans e15)
        have HB2_15 : Hid (Blk w15 (w4.heap.size) #[.string (qs P.x), .string (qs P.y), .string (qs P.z)] 30) := Lib.hid (Blk.ext HB2_14.out e15)
        clear e15
        have c2_0 := HB2_15.out.cell 0 rfl
        have c2_1 := HB2_15.out.cell 1 rfl
        have c2_2 := HB2_15.out.cell 2 rfl
        go_wp2_with fail
        refine (sscale_x P (mkRat 1 k) _ (HG.out.ext HX15.out) HP.out (one_over hlo hlt) (by omega) (by omega)).mono ?_; rintro e w16 ⟨rfl, e16⟩
        have HX16 : Hid (Ext w w16) := Lib.hid (HX15.out.trans e16)
        have HB2_16 : Hid (Blk w16 (w4.heap.size) #[.string (qs P.x), .string (qs P.y), .string (qs P.z)] 30) := Lib.hid (Blk.ext HB2_15.out e16)
        clear e16 c2_0 c2_1 c2_2
        go_upto_region 14 with fail
        refine wp_name (fun W => Ext w W ∧ Blk W (w4.heap.size) #[.string (qs P.x), .string (qs P.y), .string (qs P.z)] 30 ∧ Blk W (w16.heap.size) #[.string (qs (P.x * mkRat 1 k)), .string (qs (P.y * mkRat 1 k)), .string (qs (P.z * mkRat 1 k))] 30) ⟨(HX16.out.alloc _), (HB2_16.out.alloc _), (Blk.new' (w := _) (cs := #[.string (qs (P.x * mkRat 1 k)), .string (qs (P.y * mkRat 1 k)), .string (qs (P.z * mkRat 1 k))]) (t := 30) (by first | rfl | (simp only [World.size_alloc]; done) | (simp only [World.size_alloc]; omega) | simp))⟩ ?_
        rintro w17 ⟨e17, bB2_17, bB3_17⟩
        have HX17 := Lib.hid e17; have HB2_17 := Lib.hid bB2_17; have HB3_17 := Lib.hid bB3_17
        have HGEB3 : Hid (w.heap.size ≤ w16.heap.size) := Lib.hid (by have := HX16.out.size; first | omega | (simp only []; omega) | (simp; omega))
        clear e17 bB2_17 bB3_17
        have c3_0 := HB3_17.out.cell 0 rfl
        go_wp2_with fail
        refine (sint_f (P.x * mkRat 1 k) _ (HP.out.x.mul (one_over hlo hlt)) (by omega) HI0.out).mono ?_; rintro e w18 ⟨rfl, e18⟩
        have HX18 : Hid (Ext w w18) := Lib.hid (HX17.out.trans e18)
        have HB2_18 : Hid (Blk w18 (w4.heap.size) #[.string (qs P.x), .string (qs P.y), .string (qs P.z)] 30) := Lib.hid (Blk.ext HB2_17.out e18)
        have HB3_18 : Hid (Blk w18 (w16.heap.size) #[.string (qs (P.x * mkRat 1 k)), .string (qs (P.y * mkRat 1 k)), .string (qs (P.z * mkRat 1 k))] 30) := Lib.hid (Blk.ext HB3_17.out e18)
        clear e18 c3_0
        go_wp2_with fail
        go_roundw
        case rel => exact ⟨k + 1, by go_num, by omega, by omega, Lib.hid ⟨HX18.out, HB2_18.out⟩⟩
        case measure => simp [intOf]; omega
      · obtain ⟨h0, h1⟩ := hi
        have HI0 := Lib.hid h0; have HI1 := Lib.hid h1; clear h0 h1
        go_wp2_with fail
        refine (fqof_1k k _ (HG.out.ext HX14.out) hlo hlt).mono ?_; rintro e w15 ⟨rfl, e15⟩
        have HX15 : Hid (Ext w w15) := Lib.hid (HX14.out.trans e15)
        have HB2_15 : Hid (Blk w15 (w4.heap.size) #[.string (qs P.x), .string (qs P.y), .string (qs P.z)] 30) := Lib.hid (Blk.ext HB2_14.out e15)
        clear e15
        have c2_0 := HB2_15.out.cell 0 rfl
        have c2_1 := HB2_15.out.cell 1 rfl
        have c2_2 := HB2_15.out.cell 2 rfl
        go_wp2_with fail
        refine (sscale_x P (mkRat 1 k) _ (HG.out.ext HX15.out) HP.out (one_over hlo hlt) (by omega) (by omega)).mono ?_; rintro e w16 ⟨rfl, e16⟩
        have HX16 : Hid (Ext w w16) := Lib.hid (HX15.out.trans e16)
        have HB2_16 : Hid (Blk w16 (w4.heap.size) #[.string (qs P.x), .string (qs P.y), .string (qs P.z)] 30) := Lib.hid (Blk.ext HB2_15.out e16)
        clear e16 c2_0 c2_1 c2_2
        go_upto_region 14 with fail
        refine wp_name (fun W => Ext w W ∧ Blk W (w4.heap.size) #[.string (qs P.x), .string (qs P.y), .string (qs P.z)] 30 ∧ Blk W (w16.heap.size) #[.string (qs (P.x * mkRat 1 k)), .string (qs (P.y * mkRat 1 k)), .string (qs (P.z * mkRat 1 k))] 30) ⟨(HX16.out.alloc _), (HB2_16.out.alloc _), (Blk.new' (w := _) (cs := #[.string (qs (P.x * mkRat 1 k)), .string (qs (P.y * mkRat 1 k)), .string (qs (P.z * mkRat 1 k))]) (t := 30) (by first | rfl | (simp only [World.size_alloc]; done) | (simp only [World.size_alloc]; omega) | simp))⟩ ?_
        rintro w17 ⟨e17, bB2_17, bB3_17⟩
        have HX17 := Lib.hid e17; have HB2_17 := Lib.hid bB2_17; have HB3_17 := Lib.hid bB3_17
        have HGEB3 : Hid (w.heap.size ≤ w16.heap.size) := Lib.hid (by have := HX16.out.size; first | omega | (simp only []; omega) | (simp; omega))
        clear e17 bB2_17 bB3_17
        have c3_0 := HB3_17.out.cell 0 rfl
        go_wp2_with fail
        refine (sint_t (P.x * mkRat 1 k) _ (HP.out.x.mul (one_over hlo hlt)) (by omega) HI0.out).mono ?_; rintro e w18 ⟨rfl, e18⟩
        have HX18 : Hid (Ext w w18) := Lib.hid (HX17.out.trans e18)
        have HB2_18 : Hid (Blk w18 (w4.heap.size) #[.string (qs P.x), .string (qs P.y), .string (qs P.z)] 30) := Lib.hid (Blk.ext HB2_17.out e18)
        have HB3_18 : Hid (Blk w18 (w16.heap.size) #[.string (qs (P.x * mkRat 1 k)), .string (qs (P.y * mkRat 1 k)), .string (qs (P.z * mkRat 1 k))] 30) := Lib.hid (Blk.ext HB3_17.out e18)
        clear e18 c3_0
        have c3_1 := HB3_18.out.cell 1 rfl
        go_wp2_with fail
        refine (sint_f (P.y * mkRat 1 k) _ (HP.out.y.mul (one_over hlo hlt)) (by omega) HI1.out).mono ?_; rintro e w19 ⟨rfl, e19⟩
        have HX19 : Hid (Ext w w19) := Lib.hid (HX18.out.trans e19)
        have HB2_19 : Hid (Blk w19 (w4.heap.size) #[.string (qs P.x), .string (qs P.y), .string (qs P.z)] 30) := Lib.hid (Blk.ext HB2_18.out e19)
        have HB3_19 : Hid (Blk w19 (w16.heap.size) #[.string (qs (P.x * mkRat 1 k)), .string (qs (P.y * mkRat 1 k)), .string (qs (P.z * mkRat 1 k))] 30) := Lib.hid (Blk.ext HB3_18.out e19)
        clear e19 c3_1
        go_wp2_with fail
        go_roundw
        case rel => exact ⟨k + 1, by go_num, by omega, by omega, Lib.hid ⟨HX19.out, HB2_19.out⟩⟩
        case measure => simp [intOf]; omega
      · obtain ⟨h0, h1, h2⟩ := hi
        have HI0 := Lib.hid h0; have HI1 := Lib.hid h1; have HI2 := Lib.hid h2; clear h0 h1 h2
        go_wp2_with fail
        refine (fqof_1k k _ (HG.out.ext HX14.out) hlo hlt).mono ?_; rintro e w15 ⟨rfl, e15⟩
        have HX15 : Hid (Ext w w15) := Lib.hid (HX14.out.trans e15)
        have HB2_15 : Hid (Blk w15 (w4.heap.size) #[.string (qs P.x), .string (qs P.y), .string (qs P.z)] 30) := Lib.hid (Blk.ext HB2_14.out e15)
        clear e15
        have c2_0 := HB2_15.out.cell 0 rfl
        have c2_1 := HB2_15.out.cell 1 rfl
        have c2_2 := HB2_15.out.cell 2 rfl
        go_wp2_with fail
        refine (sscale_x P (mkRat 1 k) _ (HG.out.ext HX15.out) HP.out (one_over hlo hlt) (by omega) (by omega)).mono ?_; rintro e w16 ⟨rfl, e16⟩
        have HX16 : Hid (Ext w w16) := Lib.hid (HX15.out.trans e16)
        have HB2_16 : Hid (Blk w16 (w4.heap.size) #[.string (qs P.x), .string (qs P.y), .string (qs P.z)] 30) := Lib.hid (Blk.ext HB2_15.out e16)
        clear e16 c2_0 c2_1 c2_2
        go_upto_region 14 with fail
        refine wp_name (fun W => Ext w W ∧ Blk W (w4.heap.size) #[.string (qs P.x), .string (qs P.y), .string (qs P.z)] 30 ∧ Blk W (w16.heap.size) #[.string (qs (P.x * mkRat 1 k)), .string (qs (P.y * mkRat 1 k)), .string (qs (P.z * mkRat 1 k))] 30) ⟨(HX16.out.alloc _), (HB2_16.out.alloc _), (Blk.new' (w := _) (cs := #[.string (qs (P.x * mkRat 1 k)), .string (qs (P.y * mkRat 1 k)), .string (qs (P.z * mkRat 1 k))]) (t := 30) (by first | rfl | (simp only [World.size_alloc]; done) | (simp only [World.size_alloc]; omega) | simp))⟩ ?_
        rintro w17 ⟨e17, bB2_17, bB3_17⟩
        have HX17 := Lib.hid e17; have HB2_17 := Lib.hid bB2_17; have HB3_17 := Lib.hid bB3_17
        have HGEB3 : Hid (w.heap.size ≤ w16.heap.size) := Lib.hid (by have := HX16.out.size; first | omega | (simp only []; omega) | (simp; omega))
        clear e17 bB2_17 bB3_17
        have c3_0 := HB3_17.out.cell 0 rfl
        go_wp2_with fail
        refine (sint_t (P.x * mkRat 1 k) _ (HP.out.x.mul (one_over hlo hlt)) (by omega) HI0.out).mono ?_; rintro e w18 ⟨rfl, e18⟩
        have HX18 : Hid (Ext w w18) := Lib.hid (HX17.out.trans e18)
        have HB2_18 : Hid (Blk w18 (w4.heap.size) #[.string (qs P.x), .string (qs P.y), .string (qs P.z)] 30) := Lib.hid (Blk.ext HB2_17.out e18)
        have HB3_18 : Hid (Blk w18 (w16.heap.size) #[.string (qs (P.x * mkRat 1 k)), .string (qs (P.y * mkRat 1 k)), .string (qs (P.z * mkRat 1 k))] 30) := Lib.hid (Blk.ext HB3_17.out e18)
        clear e18 c3_0
        have c3_1 := HB3_18.out.cell 1 rfl
        go_wp2_with fail
        refine (sint_t (P.y * mkRat 1 k) _ (HP.out.y.mul (one_over hlo hlt)) (by omega) HI1.out).mono ?_; rintro e w19 ⟨rfl, e19⟩
        have HX19 : Hid (Ext w w19) := Lib.hid (HX18.out.trans e19)
        have HB2_19 : Hid (Blk w19 (w4.heap.size) #[.string (qs P.x), .string (qs P.y), .string (qs P.z)] 30) := Lib.hid (Blk.ext HB2_18.out e19)
        have HB3_19 : Hid (Blk w19 (w16.heap.size) #[.string (qs (P.x * mkRat 1 k)), .string (qs (P.y * mkRat 1 k)), .string (qs (P.z * mkRat 1 k))] 30) := Lib.hid (Blk.ext HB3_18.out e19)
        clear e19 c3_1
        have c3_2 := HB3_19.out.cell 2 rfl
        go_wp2_with fail
        refine (sint_f (P.z * mkRat 1 k) _ (HP.out.z.mul (one_over hlo hlt)) (by omega) HI2.out).mono ?_; rintro e w20 ⟨rfl, e20⟩
        have HX20 : Hid (Ext w w20) := Lib.hid (HX19.out.trans e20)
        have HB2_20 : Hid (Blk w20 (w4.heap.size) #[.string (qs P.x), .string (qs P.y), .string (qs P.z)] 30) := Lib.hid (Blk.ext HB2_19.out e20)
        have HB3_20 : Hid (Blk w20 (w16.heap.size) #[.string (qs (P.x * mkRat 1 k)), .string (qs (P.y * mkRat 1 k)), .string (qs (P.z * mkRat 1 k))] 30) := Lib.hid (Blk.ext HB3_19.out e20)
        clear e20 c3_2
        go_wp2_with fail
        go_roundw
        case rel => exact ⟨k + 1, by go_num, by omega, by omega, Lib.hid ⟨HX20.out, HB2_20.out⟩⟩
        case measure => simp [intOf]; omega
    · go_wp2
      go_ret
      exact ⟨rfl, HX14.out⟩

theorem prim_walk (p : Pla) (w : World) (g : Gd w) (hp : PlaOk p) : Calls Tryz.prog 3 #[plc p] w (Ret w (.bool true)) := by
  by_cases hz : (pvec p).x = 0 ∧ (pvec p).y = 0 ∧ (pvec p).z = 0
  · exact prim_walk0 p w g hp hz
  · exact prim_walk1 p w g hp hz
end Go.Proofs.YtglppcmegocphaaGreatDoor
